/- What functions of the program, and of its laws, give, each proved of its code by a walk; no condition. -/
import Derived.Test.YtoakeildgpeffaaKPlanWholePx0
namespace Go.Proofs.Ytoakeildgpeffaa.P
open Go.RowKit Go.Proofs.YtoakeildgpeffaaW.PrintWords Go.Proofs.YtoakeildgpeffaaW.PrintLast Go.Proofs.YtoakeildgpeffaaW.PrintMore
attribute [local go_sem] max2_int min2_int max_two min_two max_three min_three max_four min_four   -- for this text's walks alone
set_option linter.unusedVariables false
set_option linter.unusedSimpArgs false

mutual
def curtilageref14_Short.l0 : Nat → List (S39) → Int → Option (Bool)
  | 0, _, _ => none
  | k + 1, x0, x3 => if x3 < (x0.length : Int) then (if 0 ≤ x3 then (if (((rd_T39 x0 x3).f3).length : Int) > 40 then (some false) else (curtilageref14_Short.l1 k x0 x3 0)) else (none)) else (some true)
def curtilageref14_Short.l1 : Nat → List (S39) → Int → Int → Option (Bool)
  | 0, _, _, _ => none
  | k + 1, x0, x3, x4 => if 0 ≤ x3 then (if x3 < (x0.length : Int) then (if x4 < (((rd_T39 x0 x3).f3).length : Int) then (if 0 ≤ x4 then (if ((rd_T42 ((rd_T39 x0 x3).f3) x4).f5) < 1 then (some false) else (if ((rd_T42 ((rd_T39 x0 x3).f3) x4).f5) > 3 then (some false) else (if ((rd_T42 ((rd_T39 x0 x3).f3) x4).f6) < 1 then (some false) else (if ((rd_T42 ((rd_T39 x0 x3).f3) x4).f6) > 2 then (some false) else (if (((rd_T42 ((rd_T39 x0 x3).f3) x4).f0).size : Int) > 100 then (some false) else (curtilageref14_Short.l1 k x0 x3 (wrap64 (x4 + 1)))))))) else (none)) else (curtilageref14_Short.l0 k x0 (wrap64 (x3 + 1)))) else (none)) else (none)
end
def curtilageref14_Short.f (k : Nat) (l0 : List (S39)) : Option (Bool) := if (l0.length : Int) > 10 then (some false) else (curtilageref14_Short.l0 k l0 0)
theorem curtilageref14_Short.mono_l : ∀ k, (∀ y0 y1, LeO (curtilageref14_Short.l0 k y0 y1) (curtilageref14_Short.l0 (k + 1) y0 y1)) ∧ (∀ y0 y1 y2, LeO (curtilageref14_Short.l1 k y0 y1 y2) (curtilageref14_Short.l1 (k + 1) y0 y1 y2))
  | 0 => ⟨fun _ _ r h => by simp [curtilageref14_Short.l0] at h, fun _ _ _ r h => by simp [curtilageref14_Short.l1] at h⟩
  | k + 1 => by
    obtain ⟨ih0, ih1⟩ := curtilageref14_Short.mono_l k
    refine ⟨?_, ?_⟩
    · intro y0 y1
      unfold curtilageref14_Short.l0
      repeat' first
      | (with_reducible exact ih0 _ _)
      | (with_reducible exact ih1 _ _ _)
      | (with_reducible exact LeO.refl _)
      | (with_reducible exact LeO.none _)
      | (with_reducible refine LeO.ite ?_ ?_)
      | (with_reducible refine LeO.bind ?_ (fun _ => ?_))
      | exact ih0 _ _
      | exact ih1 _ _ _
      | exact LeO.none _
      | refine LeO.ite ?_ ?_
      | refine LeO.bind ?_ (fun _ => ?_)
    · intro y0 y1 y2
      unfold curtilageref14_Short.l1
      repeat' first
      | (with_reducible exact ih0 _ _)
      | (with_reducible exact ih1 _ _ _)
      | (with_reducible exact LeO.refl _)
      | (with_reducible exact LeO.none _)
      | (with_reducible refine LeO.ite ?_ ?_)
      | (with_reducible refine LeO.bind ?_ (fun _ => ?_))
      | exact ih0 _ _
      | exact ih1 _ _ _
      | exact LeO.none _
      | refine LeO.ite ?_ ?_
      | refine LeO.bind ?_ (fun _ => ?_)
theorem curtilageref14_Short.mono : ∀ a0 k, LeO (curtilageref14_Short.f k a0) (curtilageref14_Short.f (k + 1) a0) := by
  intro a0 k
  obtain ⟨ih0, ih1⟩ := curtilageref14_Short.mono_l k
  unfold curtilageref14_Short.f
  repeat' first
      | (with_reducible exact ih0 _ _)
      | (with_reducible exact ih1 _ _ _)
      | (with_reducible exact LeO.refl _)
      | (with_reducible exact LeO.none _)
      | (with_reducible refine LeO.ite ?_ ?_)
      | (with_reducible refine LeO.bind ?_ (fun _ => ?_))
      | exact ih0 _ _
      | exact ih1 _ _ _
      | exact LeO.none _
      | refine LeO.ite ?_ ?_
      | refine LeO.bind ?_ (fun _ => ?_)
set_option maxHeartbeats 8000000 in
set_option maxRecDepth 100000 in
theorem curtilageref14_Short.calls (k : Nat) (A0 : Option Addr) (c0 : Nat) (l0 : List (S39)) (r : Bool) (w : World) (hr0 : Kd.C k39 w A0 l0.length l0) (hc0 : l0.length ≤ c0) (h : curtilageref14_Short.f k l0 = some r) :
    Calls Try.prog 13 #[.slice A0 l0.length c0] w fun e w' => e = .returned (.bool r) ∧ Below w.heap.size w w' := by
  have hu42 := Try.underlying42
  have HR0 := Aside0.mk hr0
  have HC0 := Aside0.mk hc0
  clear hr0 hc0
  have HB := Aside0.mk (Below.refl w.heap.size w)
  have H : (if (l0.length : Int) > 10 then (some false) else (curtilageref14_Short.l0 k l0 0)) = some r := h
  clear h
  by_cases c2 : (l0.length : Int) > 10
  · rw [if_pos c2] at H
    have c2b0 : decide (10 < (l0.length : Int)) = true := decide_eq_true c2
    have c2b1 : decide (10 < l0.length) = true := decide_eq_true (by omega)
    clear c2
    obtain rfl := Option.some.inj H
    go_enter Try.func13, Try.ntmps13
    go_wp2
    go_ret
    exact ⟨by first | rfl | (simp [errW_none, errW_some] <;> rfl) | (simp [*, errW_none, errW_some] <;> rfl), by repeat (first | (with_reducible first | exact HB.out | apply below_alloc | apply pw_below_drewN | apply below_drew1) | exact HB.out)⟩
  · rw [if_neg c2] at H
    have c2b0 : decide (10 < (l0.length : Int)) = false := decide_eq_false c2
    have c2b1 : decide (10 < l0.length) = false := decide_eq_false (by omega)
    clear c2
    have H' := Aside0.mk H
    clear H
    go_enter Try.func13, Try.ntmps13
    go_wp2
    go_loopg [3] k (fun kq v3 w' => ∃ (x3_1 : Int), v3 = .int .i64 x3_1 ∧ Aside0 (curtilageref14_Short.l0 kq l0 x3_1 = some r) ∧ Aside0 (kq ≤ k) ∧ Aside0 (Below w.heap.size w w'))
    case atStart => exact ⟨(0), (by first | rfl | (simp; done) | (simp [*]; done)), H', ⟨Nat.le_refl _⟩, ⟨by repeat (first | (with_reducible first | exact HB.out | apply below_alloc | apply pw_below_drewN | apply below_drew1) | exact HB.out)⟩⟩
    case round =>
      clear H'
      try clear c1
      try clear c2
      try clear c2b0
      try clear c2b1
      try clear p2
      obtain ⟨x3_1, rfl, HA, HK1, HB⟩ := hrel
      cases gk with
      | zero => exact absurd HA.out (by simp [curtilageref14_Short.l0])
      | succ k1 =>
        have H := HA.out
        clear HA
        simp only [curtilageref14_Short.l0] at H
        by_cases c3 : x3_1 < (l0.length : Int)
        · rw [if_pos c3] at H
          have c3b0 : decide (x3_1 < (l0.length : Int)) = true := decide_eq_true c3
          clear c3
          by_cases c4 : 0 ≤ x3_1
          · rw [if_pos c4] at H
            have c4b0 : decide (0 ≤ x3_1) = true := decide_eq_true c4
            clear c4
            by_cases c5 : (((rd_T39 l0 x3_1).f3).length : Int) > 40
            · rw [if_pos c5] at H
              have c5b0 : decide (40 < (((rd_T39 l0 x3_1).f3).length : Int)) = true := decide_eq_true c5
              have c5b1 : decide (40 < ((rd_T39 l0 x3_1).f3).length) = true := decide_eq_true (by omega)
              clear c5
              obtain rfl := Option.some.inj H
              have p146 : 0 ≤ (x3_1 : Int) := of_decide_eq_true (by first | (with_reducible assumption) | assumption)
              have q146 : x3_1 < (l0.length : Int) := of_decide_eq_true (by first | (with_reducible assumption) | assumption)
              obtain ⟨ad146, A146_1, c146_1, A146_2, c146_2, A146_3, c146_3, A146_4, c146_4, A146_5, c146_5, A146_6, c146_6, e146, hx146_0, hx146_1, hx146_2, hx146_3, hx146_4, hx146_5, hx146_6, hl146_1, hi146_1, hl146_2, hi146_2, hl146_3, hi146_3, hl146_4, hi146_4, hl146_5, hi146_5, hl146_6, hi146_6⟩ := at_T39 HR0.out x3_1 p146 q146
              cases e146
              replace hx146_0 := (HB.out.cell (World.block_lt_of_cell? w _ hx146_0)).trans hx146_0
              replace hx146_1 := (HB.out.cell (World.block_lt_of_cell? w _ hx146_1)).trans hx146_1
              replace hx146_2 := (HB.out.cell (World.block_lt_of_cell? w _ hx146_2)).trans hx146_2
              replace hx146_3 := (HB.out.cell (World.block_lt_of_cell? w _ hx146_3)).trans hx146_3
              replace hx146_4 := (HB.out.cell (World.block_lt_of_cell? w _ hx146_4)).trans hx146_4
              replace hx146_5 := (HB.out.cell (World.block_lt_of_cell? w _ hx146_5)).trans hx146_5
              replace hx146_6 := (HB.out.cell (World.block_lt_of_cell? w _ hx146_6)).trans hx146_6
              have HR146_1 := Aside0.mk hi146_1
              have HC146_1 := Aside0.mk hl146_1
              clear hi146_1 hl146_1
              have HR146_2 := Aside0.mk hi146_2
              have HC146_2 := Aside0.mk hl146_2
              clear hi146_2 hl146_2
              have HR146_3 := Aside0.mk hi146_3
              have HC146_3 := Aside0.mk hl146_3
              clear hi146_3 hl146_3
              have HR146_4 := Aside0.mk hi146_4
              have HC146_4 := Aside0.mk hl146_4
              clear hi146_4 hl146_4
              have HR146_5 := Aside0.mk hi146_5
              have HC146_5 := Aside0.mk hl146_5
              clear hi146_5 hl146_5
              have HR146_6 := Aside0.mk hi146_6
              have HC146_6 := Aside0.mk hl146_6
              clear hi146_6 hl146_6
              replace p146 := eq_true p146
              replace q146 := eq_true q146
              go_wp2
              go_ret
              exact ⟨by first | rfl | (simp [errW_none, errW_some] <;> rfl) | (simp [*, errW_none, errW_some] <;> rfl), by repeat (first | (with_reducible first | exact HB.out | apply below_alloc | apply pw_below_drewN | apply below_drew1) | exact HB.out)⟩
            · rw [if_neg c5] at H
              have c5b0 : decide (40 < (((rd_T39 l0 x3_1).f3).length : Int)) = false := decide_eq_false c5
              have c5b1 : decide (40 < ((rd_T39 l0 x3_1).f3).length) = false := decide_eq_false (by omega)
              clear c5
              have H' := Aside0.mk H
              clear H
              have p146 : 0 ≤ (x3_1 : Int) := of_decide_eq_true (by first | (with_reducible assumption) | assumption)
              have q146 : x3_1 < (l0.length : Int) := of_decide_eq_true (by first | (with_reducible assumption) | assumption)
              obtain ⟨ad146, A146_1, c146_1, A146_2, c146_2, A146_3, c146_3, A146_4, c146_4, A146_5, c146_5, A146_6, c146_6, e146, hx146_0, hx146_1, hx146_2, hx146_3, hx146_4, hx146_5, hx146_6, hl146_1, hi146_1, hl146_2, hi146_2, hl146_3, hi146_3, hl146_4, hi146_4, hl146_5, hi146_5, hl146_6, hi146_6⟩ := at_T39 HR0.out x3_1 p146 q146
              cases e146
              replace hx146_0 := (HB.out.cell (World.block_lt_of_cell? w _ hx146_0)).trans hx146_0
              replace hx146_1 := (HB.out.cell (World.block_lt_of_cell? w _ hx146_1)).trans hx146_1
              replace hx146_2 := (HB.out.cell (World.block_lt_of_cell? w _ hx146_2)).trans hx146_2
              replace hx146_3 := (HB.out.cell (World.block_lt_of_cell? w _ hx146_3)).trans hx146_3
              replace hx146_4 := (HB.out.cell (World.block_lt_of_cell? w _ hx146_4)).trans hx146_4
              replace hx146_5 := (HB.out.cell (World.block_lt_of_cell? w _ hx146_5)).trans hx146_5
              replace hx146_6 := (HB.out.cell (World.block_lt_of_cell? w _ hx146_6)).trans hx146_6
              have HR146_1 := Aside0.mk hi146_1
              have HC146_1 := Aside0.mk hl146_1
              clear hi146_1 hl146_1
              have HR146_2 := Aside0.mk hi146_2
              have HC146_2 := Aside0.mk hl146_2
              clear hi146_2 hl146_2
              have HR146_3 := Aside0.mk hi146_3
              have HC146_3 := Aside0.mk hl146_3
              clear hi146_3 hl146_3
              have HR146_4 := Aside0.mk hi146_4
              have HC146_4 := Aside0.mk hl146_4
              clear hi146_4 hl146_4
              have HR146_5 := Aside0.mk hi146_5
              have HC146_5 := Aside0.mk hl146_5
              clear hi146_5 hl146_5
              have HR146_6 := Aside0.mk hi146_6
              have HC146_6 := Aside0.mk hl146_6
              clear hi146_6 hl146_6
              replace p146 := eq_true p146
              replace q146 := eq_true q146
              go_wp2
              go_loopg [4] k1 (fun kq v4 w' => ∃ (x4_2 : Int), v4 = .int .i64 x4_2 ∧ Aside0 (curtilageref14_Short.l1 kq l0 x3_1 x4_2 = some r) ∧ Aside0 (kq ≤ k1) ∧ Aside0 (Below w.heap.size w w'))
              case atStart => exact ⟨(0), (by first | rfl | (simp; done) | (simp [*]; done)), H', ⟨Nat.le_refl _⟩, ⟨by repeat (first | (with_reducible first | exact HB.out | apply below_alloc | apply pw_below_drewN | apply below_drew1) | exact HB.out)⟩⟩
              case round =>
                clear H'
                try clear c1
                try clear p1
                try clear q1
                try clear hx1
                try clear c2
                try clear c2b0
                try clear c2b1
                try clear p2
                try clear c3
                try clear c3b0
                try clear c4
                try clear c4b0
                try clear c5
                try clear c5b0
                try clear c5b1
                try clear hx146_0
                try clear hx146_1
                try clear hx146_2
                try clear hx146_3
                try clear hx146_4
                try clear hx146_5
                try clear hx146_6
                try clear p146
                try clear p2
                try clear q146
                obtain ⟨x4_2, rfl, HA, HK2, HB⟩ := hrel
                cases gk with
                | zero => exact absurd HA.out (by simp [curtilageref14_Short.l1])
                | succ k2 =>
                  have H := HA.out
                  clear HA
                  simp only [curtilageref14_Short.l1] at H
                  by_cases c6 : 0 ≤ x3_1
                  · rw [if_pos c6] at H
                    have c6b0 : decide (0 ≤ x3_1) = true := decide_eq_true c6
                    clear c6
                    by_cases c7 : x3_1 < (l0.length : Int)
                    · rw [if_pos c7] at H
                      have c7b0 : decide (x3_1 < (l0.length : Int)) = true := decide_eq_true c7
                      clear c7
                      by_cases c8 : x4_2 < (((rd_T39 l0 x3_1).f3).length : Int)
                      · rw [if_pos c8] at H
                        have c8b0 : decide (x4_2 < (((rd_T39 l0 x3_1).f3).length : Int)) = true := decide_eq_true c8
                        clear c8
                        by_cases c9 : 0 ≤ x4_2
                        · rw [if_pos c9] at H
                          have c9b0 : decide (0 ≤ x4_2) = true := decide_eq_true c9
                          clear c9
                          by_cases c10 : ((rd_T42 ((rd_T39 l0 x3_1).f3) x4_2).f5) < 1
                          · rw [if_pos c10] at H
                            have c10b0 : decide (((rd_T42 ((rd_T39 l0 x3_1).f3) x4_2).f5) < 1) = true := decide_eq_true c10
                            clear c10
                            obtain rfl := Option.some.inj H
                            have p147 : 0 ≤ (x3_1 : Int) := of_decide_eq_true (by first | (with_reducible assumption) | assumption)
                            have q147 : x3_1 < (l0.length : Int) := of_decide_eq_true (by first | (with_reducible assumption) | assumption)
                            obtain ⟨ad147, A147_1, c147_1, A147_2, c147_2, A147_3, c147_3, A147_4, c147_4, A147_5, c147_5, A147_6, c147_6, e147, hx147_0, hx147_1, hx147_2, hx147_3, hx147_4, hx147_5, hx147_6, hl147_1, hi147_1, hl147_2, hi147_2, hl147_3, hi147_3, hl147_4, hi147_4, hl147_5, hi147_5, hl147_6, hi147_6⟩ := at_T39 HR0.out x3_1 p147 q147
                            obtain rfl : ad146 = ad147 := (by injection e147)
                            replace hx147_0 := (HB.out.cell (World.block_lt_of_cell? w _ hx147_0)).trans hx147_0
                            replace hx147_1 := (HB.out.cell (World.block_lt_of_cell? w _ hx147_1)).trans hx147_1
                            replace hx147_2 := (HB.out.cell (World.block_lt_of_cell? w _ hx147_2)).trans hx147_2
                            replace hx147_3 := (HB.out.cell (World.block_lt_of_cell? w _ hx147_3)).trans hx147_3
                            replace hx147_4 := (HB.out.cell (World.block_lt_of_cell? w _ hx147_4)).trans hx147_4
                            replace hx147_5 := (HB.out.cell (World.block_lt_of_cell? w _ hx147_5)).trans hx147_5
                            replace hx147_6 := (HB.out.cell (World.block_lt_of_cell? w _ hx147_6)).trans hx147_6
                            have HR147_1 := Aside0.mk hi147_1
                            have HC147_1 := Aside0.mk hl147_1
                            clear hi147_1 hl147_1
                            have HR147_2 := Aside0.mk hi147_2
                            have HC147_2 := Aside0.mk hl147_2
                            clear hi147_2 hl147_2
                            have HR147_3 := Aside0.mk hi147_3
                            have HC147_3 := Aside0.mk hl147_3
                            clear hi147_3 hl147_3
                            have HR147_4 := Aside0.mk hi147_4
                            have HC147_4 := Aside0.mk hl147_4
                            clear hi147_4 hl147_4
                            have HR147_5 := Aside0.mk hi147_5
                            have HC147_5 := Aside0.mk hl147_5
                            clear hi147_5 hl147_5
                            have HR147_6 := Aside0.mk hi147_6
                            have HC147_6 := Aside0.mk hl147_6
                            clear hi147_6 hl147_6
                            replace p147 := eq_true p147
                            replace q147 := eq_true q147
                            have p148 : 0 ≤ (x3_1 : Int) := of_decide_eq_true (by first | (with_reducible assumption) | assumption)
                            have q148 : x3_1 < (l0.length : Int) := of_decide_eq_true (by first | (with_reducible assumption) | assumption)
                            obtain ⟨ad148, A148_1, c148_1, A148_2, c148_2, A148_3, c148_3, A148_4, c148_4, A148_5, c148_5, A148_6, c148_6, e148, hx148_0, hx148_1, hx148_2, hx148_3, hx148_4, hx148_5, hx148_6, hl148_1, hi148_1, hl148_2, hi148_2, hl148_3, hi148_3, hl148_4, hi148_4, hl148_5, hi148_5, hl148_6, hi148_6⟩ := at_T39 HR0.out x3_1 p148 q148
                            obtain rfl : ad146 = ad148 := (by injection e148)
                            replace hx148_0 := (HB.out.cell (World.block_lt_of_cell? w _ hx148_0)).trans hx148_0
                            replace hx148_1 := (HB.out.cell (World.block_lt_of_cell? w _ hx148_1)).trans hx148_1
                            replace hx148_2 := (HB.out.cell (World.block_lt_of_cell? w _ hx148_2)).trans hx148_2
                            replace hx148_3 := (HB.out.cell (World.block_lt_of_cell? w _ hx148_3)).trans hx148_3
                            replace hx148_4 := (HB.out.cell (World.block_lt_of_cell? w _ hx148_4)).trans hx148_4
                            replace hx148_5 := (HB.out.cell (World.block_lt_of_cell? w _ hx148_5)).trans hx148_5
                            replace hx148_6 := (HB.out.cell (World.block_lt_of_cell? w _ hx148_6)).trans hx148_6
                            have HR148_1 := Aside0.mk hi148_1
                            have HC148_1 := Aside0.mk hl148_1
                            clear hi148_1 hl148_1
                            have HR148_2 := Aside0.mk hi148_2
                            have HC148_2 := Aside0.mk hl148_2
                            clear hi148_2 hl148_2
                            have HR148_3 := Aside0.mk hi148_3
                            have HC148_3 := Aside0.mk hl148_3
                            clear hi148_3 hl148_3
                            have HR148_4 := Aside0.mk hi148_4
                            have HC148_4 := Aside0.mk hl148_4
                            clear hi148_4 hl148_4
                            have HR148_5 := Aside0.mk hi148_5
                            have HC148_5 := Aside0.mk hl148_5
                            clear hi148_5 hl148_5
                            have HR148_6 := Aside0.mk hi148_6
                            have HC148_6 := Aside0.mk hl148_6
                            clear hi148_6 hl148_6
                            replace p148 := eq_true p148
                            replace q148 := eq_true q148
                            have ea_ := Option.some.inj (hx147_1.symm.trans hx148_1)
                            injection ea_ with ea_ en_ ec_
                            subst ea_
                            subst ec_
                            clear en_
                            have ea_ := Option.some.inj (hx147_2.symm.trans hx148_2)
                            injection ea_ with ea_ en_ ec_
                            subst ea_
                            subst ec_
                            clear en_
                            have ea_ := Option.some.inj (hx147_3.symm.trans hx148_3)
                            injection ea_ with ea_ en_ ec_
                            subst ea_
                            subst ec_
                            clear en_
                            have ea_ := Option.some.inj (hx147_4.symm.trans hx148_4)
                            injection ea_ with ea_ en_ ec_
                            subst ea_
                            subst ec_
                            clear en_
                            have ea_ := Option.some.inj (hx147_5.symm.trans hx148_5)
                            injection ea_ with ea_ en_ ec_
                            subst ea_
                            subst ec_
                            clear en_
                            have ea_ := Option.some.inj (hx147_6.symm.trans hx148_6)
                            injection ea_ with ea_ en_ ec_
                            subst ea_
                            subst ec_
                            clear en_
                            have p149 : 0 ≤ (x4_2 : Int) := of_decide_eq_true (by first | (with_reducible assumption) | assumption)
                            have q149 : x4_2 < (((rd_T39 l0 x3_1).f3).length : Int) := of_decide_eq_true (by first | (with_reducible assumption) | assumption)
                            obtain ⟨ad149, e149, hx149_0, hx149_1, hx149_2, hx149_3, hx149_4, hx149_5, hx149_6, hx149_7⟩ := at_T42 HR148_3.out x4_2 p149 q149
                            cases e149
                            replace hx149_0 := (HB.out.cell (World.block_lt_of_cell? w _ hx149_0)).trans hx149_0
                            replace hx149_1 := (HB.out.cell (World.block_lt_of_cell? w _ hx149_1)).trans hx149_1
                            replace hx149_2 := (HB.out.cell (World.block_lt_of_cell? w _ hx149_2)).trans hx149_2
                            replace hx149_3 := (HB.out.cell (World.block_lt_of_cell? w _ hx149_3)).trans hx149_3
                            replace hx149_4 := (HB.out.cell (World.block_lt_of_cell? w _ hx149_4)).trans hx149_4
                            replace hx149_5 := (HB.out.cell (World.block_lt_of_cell? w _ hx149_5)).trans hx149_5
                            replace hx149_6 := (HB.out.cell (World.block_lt_of_cell? w _ hx149_6)).trans hx149_6
                            replace hx149_7 := (HB.out.cell (World.block_lt_of_cell? w _ hx149_7)).trans hx149_7
                            replace p149 := eq_true p149
                            replace q149 := eq_true q149
                            go_wp2_with (first | ((with_reducible refine gate_dst (N := 5) rfl ?_); (try (refine gate_guard (by rfl) ?_; dsimp only)); refine box_event ?hg (N := 5) ?hd (cs := #[.string (⟨#[]⟩ : ByteArray), .string (⟨#[]⟩ : ByteArray), .int .u64 0, .int .u64 0, .int .i64 0, .int .i64 0, .int .i64 0, .bool false]) (t := 42) ?hr ?_; (case hd => rfl); (case hg => rfl); (case hr => first | (go_simp; done) | (go_simp; rfl)); intro gb150 hg w11 hbox hb; have n0_ := Aside0.mk (below_step (by repeat (first | (with_reducible first | exact HB.out | apply below_alloc | apply pw_below_drewN | apply below_drew1) | exact HB.out)) hb); have n1_ := Aside0.mk (hbox); have n2_ := Aside0.mk ((by rw [hg]; exact (below_size (by repeat (first | (with_reducible first | exact HB.out | apply below_alloc | apply pw_below_drewN | apply below_drew1) | exact HB.out))) : w.heap.size ≤ gb150)); have n3_ := n2_; clear HB; have HB := n0_; have BK150 := n1_; have GW150 := n2_; have GE150 := n3_; clear n0_ n1_ n2_ n3_; clear hb hbox hg; obtain ⟨hcz12_0, hcz12_1, hcz12_2, hcz12_3, hcz12_4, hcz12_5, hcz12_6, hcz12_7, hfz12_0, hfz12_1, hfz12_2, hfz12_3, hfz12_4, hfz12_5, hfz12_6, hfz12_7⟩ := cells8 BK150.out) | ((with_reducible refine gate_store (t := 42) (p := 5) rfl ?_); refine store_event (t := 42) (p := 5) (v := ?vo_w13) (w1 := ((((((((w11.setCell ⟨gb150, 0, none⟩ (.string ((rd_T42 ((rd_T39 l0 x3_1).f3) x4_2).f0))).setCell ⟨gb150, 1, none⟩ (.string ((rd_T42 ((rd_T39 l0 x3_1).f3) x4_2).f1))).setCell ⟨gb150, 2, none⟩ (.int .u64 ((rd_T42 ((rd_T39 l0 x3_1).f3) x4_2).f2))).setCell ⟨gb150, 3, none⟩ (.int .u64 ((rd_T42 ((rd_T39 l0 x3_1).f3) x4_2).f3))).setCell ⟨gb150, 4, none⟩ (.int .i64 ((rd_T42 ((rd_T39 l0 x3_1).f3) x4_2).f4))).setCell ⟨gb150, 5, none⟩ (.int .i64 ((rd_T42 ((rd_T39 l0 x3_1).f3) x4_2).f5))).setCell ⟨gb150, 6, none⟩ (.int .i64 ((rd_T42 ((rd_T39 l0 x3_1).f3) x4_2).f6))).setCell ⟨gb150, 7, none⟩ (.bool ((rd_T42 ((rd_T39 l0 x3_1).f3) x4_2).f7)))) ?hg ?ho ?hn ?hr ?_; (case ho => rfl); (case hg => rfl); (case hn => rfl); (case hr => first | (go_simp; done) | (go_simp; rfl)); intro w13 hw; have n0_ : Aside0 (w13.heap[gb150]? = some (.cells #[.string ((rd_T42 ((rd_T39 l0 x3_1).f3) x4_2).f0), .string ((rd_T42 ((rd_T39 l0 x3_1).f3) x4_2).f1), .int .u64 ((rd_T42 ((rd_T39 l0 x3_1).f3) x4_2).f2), .int .u64 ((rd_T42 ((rd_T39 l0 x3_1).f3) x4_2).f3), .int .i64 ((rd_T42 ((rd_T39 l0 x3_1).f3) x4_2).f4), .int .i64 ((rd_T42 ((rd_T39 l0 x3_1).f3) x4_2).f5), .int .i64 ((rd_T42 ((rd_T39 l0 x3_1).f3) x4_2).f6), .bool ((rd_T42 ((rd_T39 l0 x3_1).f3) x4_2).f7)] 42 (0, 0))) := ⟨(by rw [hw]; exact (by (with_reducible repeat (first | refine blk_drewN ?_ _ | refine blk_drew ?_ | refine blk_alloc ?_ _)); refine blk_put (cs := #[.string ((rd_T42 ((rd_T39 l0 x3_1).f3) x4_2).f0), .string ((rd_T42 ((rd_T39 l0 x3_1).f3) x4_2).f1), .int .u64 ((rd_T42 ((rd_T39 l0 x3_1).f3) x4_2).f2), .int .u64 ((rd_T42 ((rd_T39 l0 x3_1).f3) x4_2).f3), .int .i64 ((rd_T42 ((rd_T39 l0 x3_1).f3) x4_2).f4), .int .i64 ((rd_T42 ((rd_T39 l0 x3_1).f3) x4_2).f5), .int .i64 ((rd_T42 ((rd_T39 l0 x3_1).f3) x4_2).f6), .bool false]) ?_ 7 _ rfl; (with_reducible repeat (first | refine blk_drewN ?_ _ | refine blk_drew ?_ | refine blk_alloc ?_ _)); refine blk_put (cs := #[.string ((rd_T42 ((rd_T39 l0 x3_1).f3) x4_2).f0), .string ((rd_T42 ((rd_T39 l0 x3_1).f3) x4_2).f1), .int .u64 ((rd_T42 ((rd_T39 l0 x3_1).f3) x4_2).f2), .int .u64 ((rd_T42 ((rd_T39 l0 x3_1).f3) x4_2).f3), .int .i64 ((rd_T42 ((rd_T39 l0 x3_1).f3) x4_2).f4), .int .i64 ((rd_T42 ((rd_T39 l0 x3_1).f3) x4_2).f5), .int .i64 0, .bool false]) ?_ 6 _ rfl; (with_reducible repeat (first | refine blk_drewN ?_ _ | refine blk_drew ?_ | refine blk_alloc ?_ _)); refine blk_put (cs := #[.string ((rd_T42 ((rd_T39 l0 x3_1).f3) x4_2).f0), .string ((rd_T42 ((rd_T39 l0 x3_1).f3) x4_2).f1), .int .u64 ((rd_T42 ((rd_T39 l0 x3_1).f3) x4_2).f2), .int .u64 ((rd_T42 ((rd_T39 l0 x3_1).f3) x4_2).f3), .int .i64 ((rd_T42 ((rd_T39 l0 x3_1).f3) x4_2).f4), .int .i64 0, .int .i64 0, .bool false]) ?_ 5 _ rfl; (with_reducible repeat (first | refine blk_drewN ?_ _ | refine blk_drew ?_ | refine blk_alloc ?_ _)); refine blk_put (cs := #[.string ((rd_T42 ((rd_T39 l0 x3_1).f3) x4_2).f0), .string ((rd_T42 ((rd_T39 l0 x3_1).f3) x4_2).f1), .int .u64 ((rd_T42 ((rd_T39 l0 x3_1).f3) x4_2).f2), .int .u64 ((rd_T42 ((rd_T39 l0 x3_1).f3) x4_2).f3), .int .i64 0, .int .i64 0, .int .i64 0, .bool false]) ?_ 4 _ rfl; (with_reducible repeat (first | refine blk_drewN ?_ _ | refine blk_drew ?_ | refine blk_alloc ?_ _)); refine blk_put (cs := #[.string ((rd_T42 ((rd_T39 l0 x3_1).f3) x4_2).f0), .string ((rd_T42 ((rd_T39 l0 x3_1).f3) x4_2).f1), .int .u64 ((rd_T42 ((rd_T39 l0 x3_1).f3) x4_2).f2), .int .u64 0, .int .i64 0, .int .i64 0, .int .i64 0, .bool false]) ?_ 3 _ rfl; (with_reducible repeat (first | refine blk_drewN ?_ _ | refine blk_drew ?_ | refine blk_alloc ?_ _)); refine blk_put (cs := #[.string ((rd_T42 ((rd_T39 l0 x3_1).f3) x4_2).f0), .string ((rd_T42 ((rd_T39 l0 x3_1).f3) x4_2).f1), .int .u64 0, .int .u64 0, .int .i64 0, .int .i64 0, .int .i64 0, .bool false]) ?_ 2 _ rfl; (with_reducible repeat (first | refine blk_drewN ?_ _ | refine blk_drew ?_ | refine blk_alloc ?_ _)); refine blk_put (cs := #[.string ((rd_T42 ((rd_T39 l0 x3_1).f3) x4_2).f0), .string (⟨#[]⟩ : ByteArray), .int .u64 0, .int .u64 0, .int .i64 0, .int .i64 0, .int .i64 0, .bool false]) ?_ 1 _ rfl; (with_reducible repeat (first | refine blk_drewN ?_ _ | refine blk_drew ?_ | refine blk_alloc ?_ _)); refine blk_put (cs := #[.string (⟨#[]⟩ : ByteArray), .string (⟨#[]⟩ : ByteArray), .int .u64 0, .int .u64 0, .int .i64 0, .int .i64 0, .int .i64 0, .bool false]) ?_ 0 _ rfl; (with_reducible repeat (first | refine blk_drewN ?_ _ | refine blk_drew ?_ | refine blk_alloc ?_ _)); exact BK150.out))⟩; have n1_ : Aside0 (Below w.heap.size w w13) := ⟨(by rw [hw]; exact (by repeat (first | (with_reducible first | exact HB.out | apply below_alloc | apply pw_below_drewN | apply below_drew1 | refine below_set ?_ GE150.out) | exact HB.out)))⟩; clear hw; clear BK150; clear HB; have BK150 := n0_; have HB := n1_; clear n0_ n1_; obtain ⟨hcz14_0, hcz14_1, hcz14_2, hcz14_3, hcz14_4, hcz14_5, hcz14_6, hcz14_7, hfz14_0, hfz14_1, hfz14_2, hfz14_3, hfz14_4, hfz14_5, hfz14_6, hfz14_7⟩ := cells8 BK150.out))
                            go_ret
                            exact ⟨by first | rfl | (simp [errW_none, errW_some] <;> rfl) | (simp [*, errW_none, errW_some] <;> rfl), by repeat (first | (with_reducible first | exact HB.out | apply below_alloc | apply pw_below_drewN | apply below_drew1 | refine below_set ?_ GE150.out) | exact HB.out)⟩
                          · rw [if_neg c10] at H
                            have c10b0 : decide (((rd_T42 ((rd_T39 l0 x3_1).f3) x4_2).f5) < 1) = false := decide_eq_false c10
                            clear c10
                            by_cases c15 : ((rd_T42 ((rd_T39 l0 x3_1).f3) x4_2).f5) > 3
                            · rw [if_pos c15] at H
                              have c15b0 : decide (3 < ((rd_T42 ((rd_T39 l0 x3_1).f3) x4_2).f5)) = true := decide_eq_true c15
                              clear c15
                              obtain rfl := Option.some.inj H
                              have p147 : 0 ≤ (x3_1 : Int) := of_decide_eq_true (by first | (with_reducible assumption) | assumption)
                              have q147 : x3_1 < (l0.length : Int) := of_decide_eq_true (by first | (with_reducible assumption) | assumption)
                              obtain ⟨ad147, A147_1, c147_1, A147_2, c147_2, A147_3, c147_3, A147_4, c147_4, A147_5, c147_5, A147_6, c147_6, e147, hx147_0, hx147_1, hx147_2, hx147_3, hx147_4, hx147_5, hx147_6, hl147_1, hi147_1, hl147_2, hi147_2, hl147_3, hi147_3, hl147_4, hi147_4, hl147_5, hi147_5, hl147_6, hi147_6⟩ := at_T39 HR0.out x3_1 p147 q147
                              obtain rfl : ad146 = ad147 := (by injection e147)
                              replace hx147_0 := (HB.out.cell (World.block_lt_of_cell? w _ hx147_0)).trans hx147_0
                              replace hx147_1 := (HB.out.cell (World.block_lt_of_cell? w _ hx147_1)).trans hx147_1
                              replace hx147_2 := (HB.out.cell (World.block_lt_of_cell? w _ hx147_2)).trans hx147_2
                              replace hx147_3 := (HB.out.cell (World.block_lt_of_cell? w _ hx147_3)).trans hx147_3
                              replace hx147_4 := (HB.out.cell (World.block_lt_of_cell? w _ hx147_4)).trans hx147_4
                              replace hx147_5 := (HB.out.cell (World.block_lt_of_cell? w _ hx147_5)).trans hx147_5
                              replace hx147_6 := (HB.out.cell (World.block_lt_of_cell? w _ hx147_6)).trans hx147_6
                              have HR147_1 := Aside0.mk hi147_1
                              have HC147_1 := Aside0.mk hl147_1
                              clear hi147_1 hl147_1
                              have HR147_2 := Aside0.mk hi147_2
                              have HC147_2 := Aside0.mk hl147_2
                              clear hi147_2 hl147_2
                              have HR147_3 := Aside0.mk hi147_3
                              have HC147_3 := Aside0.mk hl147_3
                              clear hi147_3 hl147_3
                              have HR147_4 := Aside0.mk hi147_4
                              have HC147_4 := Aside0.mk hl147_4
                              clear hi147_4 hl147_4
                              have HR147_5 := Aside0.mk hi147_5
                              have HC147_5 := Aside0.mk hl147_5
                              clear hi147_5 hl147_5
                              have HR147_6 := Aside0.mk hi147_6
                              have HC147_6 := Aside0.mk hl147_6
                              clear hi147_6 hl147_6
                              replace p147 := eq_true p147
                              replace q147 := eq_true q147
                              have p148 : 0 ≤ (x3_1 : Int) := of_decide_eq_true (by first | (with_reducible assumption) | assumption)
                              have q148 : x3_1 < (l0.length : Int) := of_decide_eq_true (by first | (with_reducible assumption) | assumption)
                              obtain ⟨ad148, A148_1, c148_1, A148_2, c148_2, A148_3, c148_3, A148_4, c148_4, A148_5, c148_5, A148_6, c148_6, e148, hx148_0, hx148_1, hx148_2, hx148_3, hx148_4, hx148_5, hx148_6, hl148_1, hi148_1, hl148_2, hi148_2, hl148_3, hi148_3, hl148_4, hi148_4, hl148_5, hi148_5, hl148_6, hi148_6⟩ := at_T39 HR0.out x3_1 p148 q148
                              obtain rfl : ad146 = ad148 := (by injection e148)
                              replace hx148_0 := (HB.out.cell (World.block_lt_of_cell? w _ hx148_0)).trans hx148_0
                              replace hx148_1 := (HB.out.cell (World.block_lt_of_cell? w _ hx148_1)).trans hx148_1
                              replace hx148_2 := (HB.out.cell (World.block_lt_of_cell? w _ hx148_2)).trans hx148_2
                              replace hx148_3 := (HB.out.cell (World.block_lt_of_cell? w _ hx148_3)).trans hx148_3
                              replace hx148_4 := (HB.out.cell (World.block_lt_of_cell? w _ hx148_4)).trans hx148_4
                              replace hx148_5 := (HB.out.cell (World.block_lt_of_cell? w _ hx148_5)).trans hx148_5
                              replace hx148_6 := (HB.out.cell (World.block_lt_of_cell? w _ hx148_6)).trans hx148_6
                              have HR148_1 := Aside0.mk hi148_1
                              have HC148_1 := Aside0.mk hl148_1
                              clear hi148_1 hl148_1
                              have HR148_2 := Aside0.mk hi148_2
                              have HC148_2 := Aside0.mk hl148_2
                              clear hi148_2 hl148_2
                              have HR148_3 := Aside0.mk hi148_3
                              have HC148_3 := Aside0.mk hl148_3
                              clear hi148_3 hl148_3
                              have HR148_4 := Aside0.mk hi148_4
                              have HC148_4 := Aside0.mk hl148_4
                              clear hi148_4 hl148_4
                              have HR148_5 := Aside0.mk hi148_5
                              have HC148_5 := Aside0.mk hl148_5
                              clear hi148_5 hl148_5
                              have HR148_6 := Aside0.mk hi148_6
                              have HC148_6 := Aside0.mk hl148_6
                              clear hi148_6 hl148_6
                              replace p148 := eq_true p148
                              replace q148 := eq_true q148
                              have ea_ := Option.some.inj (hx147_1.symm.trans hx148_1)
                              injection ea_ with ea_ en_ ec_
                              subst ea_
                              subst ec_
                              clear en_
                              have ea_ := Option.some.inj (hx147_2.symm.trans hx148_2)
                              injection ea_ with ea_ en_ ec_
                              subst ea_
                              subst ec_
                              clear en_
                              have ea_ := Option.some.inj (hx147_3.symm.trans hx148_3)
                              injection ea_ with ea_ en_ ec_
                              subst ea_
                              subst ec_
                              clear en_
                              have ea_ := Option.some.inj (hx147_4.symm.trans hx148_4)
                              injection ea_ with ea_ en_ ec_
                              subst ea_
                              subst ec_
                              clear en_
                              have ea_ := Option.some.inj (hx147_5.symm.trans hx148_5)
                              injection ea_ with ea_ en_ ec_
                              subst ea_
                              subst ec_
                              clear en_
                              have ea_ := Option.some.inj (hx147_6.symm.trans hx148_6)
                              injection ea_ with ea_ en_ ec_
                              subst ea_
                              subst ec_
                              clear en_
                              have p149 : 0 ≤ (x4_2 : Int) := of_decide_eq_true (by first | (with_reducible assumption) | assumption)
                              have q149 : x4_2 < (((rd_T39 l0 x3_1).f3).length : Int) := of_decide_eq_true (by first | (with_reducible assumption) | assumption)
                              obtain ⟨ad149, e149, hx149_0, hx149_1, hx149_2, hx149_3, hx149_4, hx149_5, hx149_6, hx149_7⟩ := at_T42 HR148_3.out x4_2 p149 q149
                              cases e149
                              replace hx149_0 := (HB.out.cell (World.block_lt_of_cell? w _ hx149_0)).trans hx149_0
                              replace hx149_1 := (HB.out.cell (World.block_lt_of_cell? w _ hx149_1)).trans hx149_1
                              replace hx149_2 := (HB.out.cell (World.block_lt_of_cell? w _ hx149_2)).trans hx149_2
                              replace hx149_3 := (HB.out.cell (World.block_lt_of_cell? w _ hx149_3)).trans hx149_3
                              replace hx149_4 := (HB.out.cell (World.block_lt_of_cell? w _ hx149_4)).trans hx149_4
                              replace hx149_5 := (HB.out.cell (World.block_lt_of_cell? w _ hx149_5)).trans hx149_5
                              replace hx149_6 := (HB.out.cell (World.block_lt_of_cell? w _ hx149_6)).trans hx149_6
                              replace hx149_7 := (HB.out.cell (World.block_lt_of_cell? w _ hx149_7)).trans hx149_7
                              replace p149 := eq_true p149
                              replace q149 := eq_true q149
                              go_wp2_with (first | ((with_reducible refine gate_dst (N := 5) rfl ?_); (try (refine gate_guard (by rfl) ?_; dsimp only)); refine box_event ?hg (N := 5) ?hd (cs := #[.string (⟨#[]⟩ : ByteArray), .string (⟨#[]⟩ : ByteArray), .int .u64 0, .int .u64 0, .int .i64 0, .int .i64 0, .int .i64 0, .bool false]) (t := 42) ?hr ?_; (case hd => rfl); (case hg => rfl); (case hr => first | (go_simp; done) | (go_simp; rfl)); intro gb150 hg w16 hbox hb; have n0_ := Aside0.mk (below_step (by repeat (first | (with_reducible first | exact HB.out | apply below_alloc | apply pw_below_drewN | apply below_drew1) | exact HB.out)) hb); have n1_ := Aside0.mk (hbox); have n2_ := Aside0.mk ((by rw [hg]; exact (below_size (by repeat (first | (with_reducible first | exact HB.out | apply below_alloc | apply pw_below_drewN | apply below_drew1) | exact HB.out))) : w.heap.size ≤ gb150)); have n3_ := n2_; clear HB; have HB := n0_; have BK150 := n1_; have GW150 := n2_; have GE150 := n3_; clear n0_ n1_ n2_ n3_; clear hb hbox hg; obtain ⟨hcz17_0, hcz17_1, hcz17_2, hcz17_3, hcz17_4, hcz17_5, hcz17_6, hcz17_7, hfz17_0, hfz17_1, hfz17_2, hfz17_3, hfz17_4, hfz17_5, hfz17_6, hfz17_7⟩ := cells8 BK150.out) | ((with_reducible refine gate_store (t := 42) (p := 5) rfl ?_); refine store_event (t := 42) (p := 5) (v := ?vo_w18) (w1 := ((((((((w16.setCell ⟨gb150, 0, none⟩ (.string ((rd_T42 ((rd_T39 l0 x3_1).f3) x4_2).f0))).setCell ⟨gb150, 1, none⟩ (.string ((rd_T42 ((rd_T39 l0 x3_1).f3) x4_2).f1))).setCell ⟨gb150, 2, none⟩ (.int .u64 ((rd_T42 ((rd_T39 l0 x3_1).f3) x4_2).f2))).setCell ⟨gb150, 3, none⟩ (.int .u64 ((rd_T42 ((rd_T39 l0 x3_1).f3) x4_2).f3))).setCell ⟨gb150, 4, none⟩ (.int .i64 ((rd_T42 ((rd_T39 l0 x3_1).f3) x4_2).f4))).setCell ⟨gb150, 5, none⟩ (.int .i64 ((rd_T42 ((rd_T39 l0 x3_1).f3) x4_2).f5))).setCell ⟨gb150, 6, none⟩ (.int .i64 ((rd_T42 ((rd_T39 l0 x3_1).f3) x4_2).f6))).setCell ⟨gb150, 7, none⟩ (.bool ((rd_T42 ((rd_T39 l0 x3_1).f3) x4_2).f7)))) ?hg ?ho ?hn ?hr ?_; (case ho => rfl); (case hg => rfl); (case hn => rfl); (case hr => first | (go_simp; done) | (go_simp; rfl)); intro w18 hw; have n0_ : Aside0 (w18.heap[gb150]? = some (.cells #[.string ((rd_T42 ((rd_T39 l0 x3_1).f3) x4_2).f0), .string ((rd_T42 ((rd_T39 l0 x3_1).f3) x4_2).f1), .int .u64 ((rd_T42 ((rd_T39 l0 x3_1).f3) x4_2).f2), .int .u64 ((rd_T42 ((rd_T39 l0 x3_1).f3) x4_2).f3), .int .i64 ((rd_T42 ((rd_T39 l0 x3_1).f3) x4_2).f4), .int .i64 ((rd_T42 ((rd_T39 l0 x3_1).f3) x4_2).f5), .int .i64 ((rd_T42 ((rd_T39 l0 x3_1).f3) x4_2).f6), .bool ((rd_T42 ((rd_T39 l0 x3_1).f3) x4_2).f7)] 42 (0, 0))) := ⟨(by rw [hw]; exact (by (with_reducible repeat (first | refine blk_drewN ?_ _ | refine blk_drew ?_ | refine blk_alloc ?_ _)); refine blk_put (cs := #[.string ((rd_T42 ((rd_T39 l0 x3_1).f3) x4_2).f0), .string ((rd_T42 ((rd_T39 l0 x3_1).f3) x4_2).f1), .int .u64 ((rd_T42 ((rd_T39 l0 x3_1).f3) x4_2).f2), .int .u64 ((rd_T42 ((rd_T39 l0 x3_1).f3) x4_2).f3), .int .i64 ((rd_T42 ((rd_T39 l0 x3_1).f3) x4_2).f4), .int .i64 ((rd_T42 ((rd_T39 l0 x3_1).f3) x4_2).f5), .int .i64 ((rd_T42 ((rd_T39 l0 x3_1).f3) x4_2).f6), .bool false]) ?_ 7 _ rfl; (with_reducible repeat (first | refine blk_drewN ?_ _ | refine blk_drew ?_ | refine blk_alloc ?_ _)); refine blk_put (cs := #[.string ((rd_T42 ((rd_T39 l0 x3_1).f3) x4_2).f0), .string ((rd_T42 ((rd_T39 l0 x3_1).f3) x4_2).f1), .int .u64 ((rd_T42 ((rd_T39 l0 x3_1).f3) x4_2).f2), .int .u64 ((rd_T42 ((rd_T39 l0 x3_1).f3) x4_2).f3), .int .i64 ((rd_T42 ((rd_T39 l0 x3_1).f3) x4_2).f4), .int .i64 ((rd_T42 ((rd_T39 l0 x3_1).f3) x4_2).f5), .int .i64 0, .bool false]) ?_ 6 _ rfl; (with_reducible repeat (first | refine blk_drewN ?_ _ | refine blk_drew ?_ | refine blk_alloc ?_ _)); refine blk_put (cs := #[.string ((rd_T42 ((rd_T39 l0 x3_1).f3) x4_2).f0), .string ((rd_T42 ((rd_T39 l0 x3_1).f3) x4_2).f1), .int .u64 ((rd_T42 ((rd_T39 l0 x3_1).f3) x4_2).f2), .int .u64 ((rd_T42 ((rd_T39 l0 x3_1).f3) x4_2).f3), .int .i64 ((rd_T42 ((rd_T39 l0 x3_1).f3) x4_2).f4), .int .i64 0, .int .i64 0, .bool false]) ?_ 5 _ rfl; (with_reducible repeat (first | refine blk_drewN ?_ _ | refine blk_drew ?_ | refine blk_alloc ?_ _)); refine blk_put (cs := #[.string ((rd_T42 ((rd_T39 l0 x3_1).f3) x4_2).f0), .string ((rd_T42 ((rd_T39 l0 x3_1).f3) x4_2).f1), .int .u64 ((rd_T42 ((rd_T39 l0 x3_1).f3) x4_2).f2), .int .u64 ((rd_T42 ((rd_T39 l0 x3_1).f3) x4_2).f3), .int .i64 0, .int .i64 0, .int .i64 0, .bool false]) ?_ 4 _ rfl; (with_reducible repeat (first | refine blk_drewN ?_ _ | refine blk_drew ?_ | refine blk_alloc ?_ _)); refine blk_put (cs := #[.string ((rd_T42 ((rd_T39 l0 x3_1).f3) x4_2).f0), .string ((rd_T42 ((rd_T39 l0 x3_1).f3) x4_2).f1), .int .u64 ((rd_T42 ((rd_T39 l0 x3_1).f3) x4_2).f2), .int .u64 0, .int .i64 0, .int .i64 0, .int .i64 0, .bool false]) ?_ 3 _ rfl; (with_reducible repeat (first | refine blk_drewN ?_ _ | refine blk_drew ?_ | refine blk_alloc ?_ _)); refine blk_put (cs := #[.string ((rd_T42 ((rd_T39 l0 x3_1).f3) x4_2).f0), .string ((rd_T42 ((rd_T39 l0 x3_1).f3) x4_2).f1), .int .u64 0, .int .u64 0, .int .i64 0, .int .i64 0, .int .i64 0, .bool false]) ?_ 2 _ rfl; (with_reducible repeat (first | refine blk_drewN ?_ _ | refine blk_drew ?_ | refine blk_alloc ?_ _)); refine blk_put (cs := #[.string ((rd_T42 ((rd_T39 l0 x3_1).f3) x4_2).f0), .string (⟨#[]⟩ : ByteArray), .int .u64 0, .int .u64 0, .int .i64 0, .int .i64 0, .int .i64 0, .bool false]) ?_ 1 _ rfl; (with_reducible repeat (first | refine blk_drewN ?_ _ | refine blk_drew ?_ | refine blk_alloc ?_ _)); refine blk_put (cs := #[.string (⟨#[]⟩ : ByteArray), .string (⟨#[]⟩ : ByteArray), .int .u64 0, .int .u64 0, .int .i64 0, .int .i64 0, .int .i64 0, .bool false]) ?_ 0 _ rfl; (with_reducible repeat (first | refine blk_drewN ?_ _ | refine blk_drew ?_ | refine blk_alloc ?_ _)); exact BK150.out))⟩; have n1_ : Aside0 (Below w.heap.size w w18) := ⟨(by rw [hw]; exact (by repeat (first | (with_reducible first | exact HB.out | apply below_alloc | apply pw_below_drewN | apply below_drew1 | refine below_set ?_ GE150.out) | exact HB.out)))⟩; clear hw; clear BK150; clear HB; have BK150 := n0_; have HB := n1_; clear n0_ n1_; obtain ⟨hcz19_0, hcz19_1, hcz19_2, hcz19_3, hcz19_4, hcz19_5, hcz19_6, hcz19_7, hfz19_0, hfz19_1, hfz19_2, hfz19_3, hfz19_4, hfz19_5, hfz19_6, hfz19_7⟩ := cells8 BK150.out))
                              go_ret
                              exact ⟨by first | rfl | (simp [errW_none, errW_some] <;> rfl) | (simp [*, errW_none, errW_some] <;> rfl), by repeat (first | (with_reducible first | exact HB.out | apply below_alloc | apply pw_below_drewN | apply below_drew1 | refine below_set ?_ GE150.out) | exact HB.out)⟩
                            · rw [if_neg c15] at H
                              have c15b0 : decide (3 < ((rd_T42 ((rd_T39 l0 x3_1).f3) x4_2).f5)) = false := decide_eq_false c15
                              clear c15
                              by_cases c20 : ((rd_T42 ((rd_T39 l0 x3_1).f3) x4_2).f6) < 1
                              · rw [if_pos c20] at H
                                have c20b0 : decide (((rd_T42 ((rd_T39 l0 x3_1).f3) x4_2).f6) < 1) = true := decide_eq_true c20
                                clear c20
                                obtain rfl := Option.some.inj H
                                have p147 : 0 ≤ (x3_1 : Int) := of_decide_eq_true (by first | (with_reducible assumption) | assumption)
                                have q147 : x3_1 < (l0.length : Int) := of_decide_eq_true (by first | (with_reducible assumption) | assumption)
                                obtain ⟨ad147, A147_1, c147_1, A147_2, c147_2, A147_3, c147_3, A147_4, c147_4, A147_5, c147_5, A147_6, c147_6, e147, hx147_0, hx147_1, hx147_2, hx147_3, hx147_4, hx147_5, hx147_6, hl147_1, hi147_1, hl147_2, hi147_2, hl147_3, hi147_3, hl147_4, hi147_4, hl147_5, hi147_5, hl147_6, hi147_6⟩ := at_T39 HR0.out x3_1 p147 q147
                                obtain rfl : ad146 = ad147 := (by injection e147)
                                replace hx147_0 := (HB.out.cell (World.block_lt_of_cell? w _ hx147_0)).trans hx147_0
                                replace hx147_1 := (HB.out.cell (World.block_lt_of_cell? w _ hx147_1)).trans hx147_1
                                replace hx147_2 := (HB.out.cell (World.block_lt_of_cell? w _ hx147_2)).trans hx147_2
                                replace hx147_3 := (HB.out.cell (World.block_lt_of_cell? w _ hx147_3)).trans hx147_3
                                replace hx147_4 := (HB.out.cell (World.block_lt_of_cell? w _ hx147_4)).trans hx147_4
                                replace hx147_5 := (HB.out.cell (World.block_lt_of_cell? w _ hx147_5)).trans hx147_5
                                replace hx147_6 := (HB.out.cell (World.block_lt_of_cell? w _ hx147_6)).trans hx147_6
                                have HR147_1 := Aside0.mk hi147_1
                                have HC147_1 := Aside0.mk hl147_1
                                clear hi147_1 hl147_1
                                have HR147_2 := Aside0.mk hi147_2
                                have HC147_2 := Aside0.mk hl147_2
                                clear hi147_2 hl147_2
                                have HR147_3 := Aside0.mk hi147_3
                                have HC147_3 := Aside0.mk hl147_3
                                clear hi147_3 hl147_3
                                have HR147_4 := Aside0.mk hi147_4
                                have HC147_4 := Aside0.mk hl147_4
                                clear hi147_4 hl147_4
                                have HR147_5 := Aside0.mk hi147_5
                                have HC147_5 := Aside0.mk hl147_5
                                clear hi147_5 hl147_5
                                have HR147_6 := Aside0.mk hi147_6
                                have HC147_6 := Aside0.mk hl147_6
                                clear hi147_6 hl147_6
                                replace p147 := eq_true p147
                                replace q147 := eq_true q147
                                have p148 : 0 ≤ (x3_1 : Int) := of_decide_eq_true (by first | (with_reducible assumption) | assumption)
                                have q148 : x3_1 < (l0.length : Int) := of_decide_eq_true (by first | (with_reducible assumption) | assumption)
                                obtain ⟨ad148, A148_1, c148_1, A148_2, c148_2, A148_3, c148_3, A148_4, c148_4, A148_5, c148_5, A148_6, c148_6, e148, hx148_0, hx148_1, hx148_2, hx148_3, hx148_4, hx148_5, hx148_6, hl148_1, hi148_1, hl148_2, hi148_2, hl148_3, hi148_3, hl148_4, hi148_4, hl148_5, hi148_5, hl148_6, hi148_6⟩ := at_T39 HR0.out x3_1 p148 q148
                                obtain rfl : ad146 = ad148 := (by injection e148)
                                replace hx148_0 := (HB.out.cell (World.block_lt_of_cell? w _ hx148_0)).trans hx148_0
                                replace hx148_1 := (HB.out.cell (World.block_lt_of_cell? w _ hx148_1)).trans hx148_1
                                replace hx148_2 := (HB.out.cell (World.block_lt_of_cell? w _ hx148_2)).trans hx148_2
                                replace hx148_3 := (HB.out.cell (World.block_lt_of_cell? w _ hx148_3)).trans hx148_3
                                replace hx148_4 := (HB.out.cell (World.block_lt_of_cell? w _ hx148_4)).trans hx148_4
                                replace hx148_5 := (HB.out.cell (World.block_lt_of_cell? w _ hx148_5)).trans hx148_5
                                replace hx148_6 := (HB.out.cell (World.block_lt_of_cell? w _ hx148_6)).trans hx148_6
                                have HR148_1 := Aside0.mk hi148_1
                                have HC148_1 := Aside0.mk hl148_1
                                clear hi148_1 hl148_1
                                have HR148_2 := Aside0.mk hi148_2
                                have HC148_2 := Aside0.mk hl148_2
                                clear hi148_2 hl148_2
                                have HR148_3 := Aside0.mk hi148_3
                                have HC148_3 := Aside0.mk hl148_3
                                clear hi148_3 hl148_3
                                have HR148_4 := Aside0.mk hi148_4
                                have HC148_4 := Aside0.mk hl148_4
                                clear hi148_4 hl148_4
                                have HR148_5 := Aside0.mk hi148_5
                                have HC148_5 := Aside0.mk hl148_5
                                clear hi148_5 hl148_5
                                have HR148_6 := Aside0.mk hi148_6
                                have HC148_6 := Aside0.mk hl148_6
                                clear hi148_6 hl148_6
                                replace p148 := eq_true p148
                                replace q148 := eq_true q148
                                have ea_ := Option.some.inj (hx147_1.symm.trans hx148_1)
                                injection ea_ with ea_ en_ ec_
                                subst ea_
                                subst ec_
                                clear en_
                                have ea_ := Option.some.inj (hx147_2.symm.trans hx148_2)
                                injection ea_ with ea_ en_ ec_
                                subst ea_
                                subst ec_
                                clear en_
                                have ea_ := Option.some.inj (hx147_3.symm.trans hx148_3)
                                injection ea_ with ea_ en_ ec_
                                subst ea_
                                subst ec_
                                clear en_
                                have ea_ := Option.some.inj (hx147_4.symm.trans hx148_4)
                                injection ea_ with ea_ en_ ec_
                                subst ea_
                                subst ec_
                                clear en_
                                have ea_ := Option.some.inj (hx147_5.symm.trans hx148_5)
                                injection ea_ with ea_ en_ ec_
                                subst ea_
                                subst ec_
                                clear en_
                                have ea_ := Option.some.inj (hx147_6.symm.trans hx148_6)
                                injection ea_ with ea_ en_ ec_
                                subst ea_
                                subst ec_
                                clear en_
                                have p149 : 0 ≤ (x4_2 : Int) := of_decide_eq_true (by first | (with_reducible assumption) | assumption)
                                have q149 : x4_2 < (((rd_T39 l0 x3_1).f3).length : Int) := of_decide_eq_true (by first | (with_reducible assumption) | assumption)
                                obtain ⟨ad149, e149, hx149_0, hx149_1, hx149_2, hx149_3, hx149_4, hx149_5, hx149_6, hx149_7⟩ := at_T42 HR148_3.out x4_2 p149 q149
                                cases e149
                                replace hx149_0 := (HB.out.cell (World.block_lt_of_cell? w _ hx149_0)).trans hx149_0
                                replace hx149_1 := (HB.out.cell (World.block_lt_of_cell? w _ hx149_1)).trans hx149_1
                                replace hx149_2 := (HB.out.cell (World.block_lt_of_cell? w _ hx149_2)).trans hx149_2
                                replace hx149_3 := (HB.out.cell (World.block_lt_of_cell? w _ hx149_3)).trans hx149_3
                                replace hx149_4 := (HB.out.cell (World.block_lt_of_cell? w _ hx149_4)).trans hx149_4
                                replace hx149_5 := (HB.out.cell (World.block_lt_of_cell? w _ hx149_5)).trans hx149_5
                                replace hx149_6 := (HB.out.cell (World.block_lt_of_cell? w _ hx149_6)).trans hx149_6
                                replace hx149_7 := (HB.out.cell (World.block_lt_of_cell? w _ hx149_7)).trans hx149_7
                                replace p149 := eq_true p149
                                replace q149 := eq_true q149
                                go_wp2_with (first | ((with_reducible refine gate_dst (N := 5) rfl ?_); (try (refine gate_guard (by rfl) ?_; dsimp only)); refine box_event ?hg (N := 5) ?hd (cs := #[.string (⟨#[]⟩ : ByteArray), .string (⟨#[]⟩ : ByteArray), .int .u64 0, .int .u64 0, .int .i64 0, .int .i64 0, .int .i64 0, .bool false]) (t := 42) ?hr ?_; (case hd => rfl); (case hg => rfl); (case hr => first | (go_simp; done) | (go_simp; rfl)); intro gb150 hg w21 hbox hb; have n0_ := Aside0.mk (below_step (by repeat (first | (with_reducible first | exact HB.out | apply below_alloc | apply pw_below_drewN | apply below_drew1) | exact HB.out)) hb); have n1_ := Aside0.mk (hbox); have n2_ := Aside0.mk ((by rw [hg]; exact (below_size (by repeat (first | (with_reducible first | exact HB.out | apply below_alloc | apply pw_below_drewN | apply below_drew1) | exact HB.out))) : w.heap.size ≤ gb150)); have n3_ := n2_; clear HB; have HB := n0_; have BK150 := n1_; have GW150 := n2_; have GE150 := n3_; clear n0_ n1_ n2_ n3_; clear hb hbox hg; obtain ⟨hcz22_0, hcz22_1, hcz22_2, hcz22_3, hcz22_4, hcz22_5, hcz22_6, hcz22_7, hfz22_0, hfz22_1, hfz22_2, hfz22_3, hfz22_4, hfz22_5, hfz22_6, hfz22_7⟩ := cells8 BK150.out) | ((with_reducible refine gate_store (t := 42) (p := 5) rfl ?_); refine store_event (t := 42) (p := 5) (v := ?vo_w23) (w1 := ((((((((w21.setCell ⟨gb150, 0, none⟩ (.string ((rd_T42 ((rd_T39 l0 x3_1).f3) x4_2).f0))).setCell ⟨gb150, 1, none⟩ (.string ((rd_T42 ((rd_T39 l0 x3_1).f3) x4_2).f1))).setCell ⟨gb150, 2, none⟩ (.int .u64 ((rd_T42 ((rd_T39 l0 x3_1).f3) x4_2).f2))).setCell ⟨gb150, 3, none⟩ (.int .u64 ((rd_T42 ((rd_T39 l0 x3_1).f3) x4_2).f3))).setCell ⟨gb150, 4, none⟩ (.int .i64 ((rd_T42 ((rd_T39 l0 x3_1).f3) x4_2).f4))).setCell ⟨gb150, 5, none⟩ (.int .i64 ((rd_T42 ((rd_T39 l0 x3_1).f3) x4_2).f5))).setCell ⟨gb150, 6, none⟩ (.int .i64 ((rd_T42 ((rd_T39 l0 x3_1).f3) x4_2).f6))).setCell ⟨gb150, 7, none⟩ (.bool ((rd_T42 ((rd_T39 l0 x3_1).f3) x4_2).f7)))) ?hg ?ho ?hn ?hr ?_; (case ho => rfl); (case hg => rfl); (case hn => rfl); (case hr => first | (go_simp; done) | (go_simp; rfl)); intro w23 hw; have n0_ : Aside0 (w23.heap[gb150]? = some (.cells #[.string ((rd_T42 ((rd_T39 l0 x3_1).f3) x4_2).f0), .string ((rd_T42 ((rd_T39 l0 x3_1).f3) x4_2).f1), .int .u64 ((rd_T42 ((rd_T39 l0 x3_1).f3) x4_2).f2), .int .u64 ((rd_T42 ((rd_T39 l0 x3_1).f3) x4_2).f3), .int .i64 ((rd_T42 ((rd_T39 l0 x3_1).f3) x4_2).f4), .int .i64 ((rd_T42 ((rd_T39 l0 x3_1).f3) x4_2).f5), .int .i64 ((rd_T42 ((rd_T39 l0 x3_1).f3) x4_2).f6), .bool ((rd_T42 ((rd_T39 l0 x3_1).f3) x4_2).f7)] 42 (0, 0))) := ⟨(by rw [hw]; exact (by (with_reducible repeat (first | refine blk_drewN ?_ _ | refine blk_drew ?_ | refine blk_alloc ?_ _)); refine blk_put (cs := #[.string ((rd_T42 ((rd_T39 l0 x3_1).f3) x4_2).f0), .string ((rd_T42 ((rd_T39 l0 x3_1).f3) x4_2).f1), .int .u64 ((rd_T42 ((rd_T39 l0 x3_1).f3) x4_2).f2), .int .u64 ((rd_T42 ((rd_T39 l0 x3_1).f3) x4_2).f3), .int .i64 ((rd_T42 ((rd_T39 l0 x3_1).f3) x4_2).f4), .int .i64 ((rd_T42 ((rd_T39 l0 x3_1).f3) x4_2).f5), .int .i64 ((rd_T42 ((rd_T39 l0 x3_1).f3) x4_2).f6), .bool false]) ?_ 7 _ rfl; (with_reducible repeat (first | refine blk_drewN ?_ _ | refine blk_drew ?_ | refine blk_alloc ?_ _)); refine blk_put (cs := #[.string ((rd_T42 ((rd_T39 l0 x3_1).f3) x4_2).f0), .string ((rd_T42 ((rd_T39 l0 x3_1).f3) x4_2).f1), .int .u64 ((rd_T42 ((rd_T39 l0 x3_1).f3) x4_2).f2), .int .u64 ((rd_T42 ((rd_T39 l0 x3_1).f3) x4_2).f3), .int .i64 ((rd_T42 ((rd_T39 l0 x3_1).f3) x4_2).f4), .int .i64 ((rd_T42 ((rd_T39 l0 x3_1).f3) x4_2).f5), .int .i64 0, .bool false]) ?_ 6 _ rfl; (with_reducible repeat (first | refine blk_drewN ?_ _ | refine blk_drew ?_ | refine blk_alloc ?_ _)); refine blk_put (cs := #[.string ((rd_T42 ((rd_T39 l0 x3_1).f3) x4_2).f0), .string ((rd_T42 ((rd_T39 l0 x3_1).f3) x4_2).f1), .int .u64 ((rd_T42 ((rd_T39 l0 x3_1).f3) x4_2).f2), .int .u64 ((rd_T42 ((rd_T39 l0 x3_1).f3) x4_2).f3), .int .i64 ((rd_T42 ((rd_T39 l0 x3_1).f3) x4_2).f4), .int .i64 0, .int .i64 0, .bool false]) ?_ 5 _ rfl; (with_reducible repeat (first | refine blk_drewN ?_ _ | refine blk_drew ?_ | refine blk_alloc ?_ _)); refine blk_put (cs := #[.string ((rd_T42 ((rd_T39 l0 x3_1).f3) x4_2).f0), .string ((rd_T42 ((rd_T39 l0 x3_1).f3) x4_2).f1), .int .u64 ((rd_T42 ((rd_T39 l0 x3_1).f3) x4_2).f2), .int .u64 ((rd_T42 ((rd_T39 l0 x3_1).f3) x4_2).f3), .int .i64 0, .int .i64 0, .int .i64 0, .bool false]) ?_ 4 _ rfl; (with_reducible repeat (first | refine blk_drewN ?_ _ | refine blk_drew ?_ | refine blk_alloc ?_ _)); refine blk_put (cs := #[.string ((rd_T42 ((rd_T39 l0 x3_1).f3) x4_2).f0), .string ((rd_T42 ((rd_T39 l0 x3_1).f3) x4_2).f1), .int .u64 ((rd_T42 ((rd_T39 l0 x3_1).f3) x4_2).f2), .int .u64 0, .int .i64 0, .int .i64 0, .int .i64 0, .bool false]) ?_ 3 _ rfl; (with_reducible repeat (first | refine blk_drewN ?_ _ | refine blk_drew ?_ | refine blk_alloc ?_ _)); refine blk_put (cs := #[.string ((rd_T42 ((rd_T39 l0 x3_1).f3) x4_2).f0), .string ((rd_T42 ((rd_T39 l0 x3_1).f3) x4_2).f1), .int .u64 0, .int .u64 0, .int .i64 0, .int .i64 0, .int .i64 0, .bool false]) ?_ 2 _ rfl; (with_reducible repeat (first | refine blk_drewN ?_ _ | refine blk_drew ?_ | refine blk_alloc ?_ _)); refine blk_put (cs := #[.string ((rd_T42 ((rd_T39 l0 x3_1).f3) x4_2).f0), .string (⟨#[]⟩ : ByteArray), .int .u64 0, .int .u64 0, .int .i64 0, .int .i64 0, .int .i64 0, .bool false]) ?_ 1 _ rfl; (with_reducible repeat (first | refine blk_drewN ?_ _ | refine blk_drew ?_ | refine blk_alloc ?_ _)); refine blk_put (cs := #[.string (⟨#[]⟩ : ByteArray), .string (⟨#[]⟩ : ByteArray), .int .u64 0, .int .u64 0, .int .i64 0, .int .i64 0, .int .i64 0, .bool false]) ?_ 0 _ rfl; (with_reducible repeat (first | refine blk_drewN ?_ _ | refine blk_drew ?_ | refine blk_alloc ?_ _)); exact BK150.out))⟩; have n1_ : Aside0 (Below w.heap.size w w23) := ⟨(by rw [hw]; exact (by repeat (first | (with_reducible first | exact HB.out | apply below_alloc | apply pw_below_drewN | apply below_drew1 | refine below_set ?_ GE150.out) | exact HB.out)))⟩; clear hw; clear BK150; clear HB; have BK150 := n0_; have HB := n1_; clear n0_ n1_; obtain ⟨hcz24_0, hcz24_1, hcz24_2, hcz24_3, hcz24_4, hcz24_5, hcz24_6, hcz24_7, hfz24_0, hfz24_1, hfz24_2, hfz24_3, hfz24_4, hfz24_5, hfz24_6, hfz24_7⟩ := cells8 BK150.out))
                                go_ret
                                exact ⟨by first | rfl | (simp [errW_none, errW_some] <;> rfl) | (simp [*, errW_none, errW_some] <;> rfl), by repeat (first | (with_reducible first | exact HB.out | apply below_alloc | apply pw_below_drewN | apply below_drew1 | refine below_set ?_ GE150.out) | exact HB.out)⟩
                              · rw [if_neg c20] at H
                                have c20b0 : decide (((rd_T42 ((rd_T39 l0 x3_1).f3) x4_2).f6) < 1) = false := decide_eq_false c20
                                clear c20
                                by_cases c25 : ((rd_T42 ((rd_T39 l0 x3_1).f3) x4_2).f6) > 2
                                · rw [if_pos c25] at H
                                  have c25b0 : decide (2 < ((rd_T42 ((rd_T39 l0 x3_1).f3) x4_2).f6)) = true := decide_eq_true c25
                                  clear c25
                                  obtain rfl := Option.some.inj H
                                  have p147 : 0 ≤ (x3_1 : Int) := of_decide_eq_true (by first | (with_reducible assumption) | assumption)
                                  have q147 : x3_1 < (l0.length : Int) := of_decide_eq_true (by first | (with_reducible assumption) | assumption)
                                  obtain ⟨ad147, A147_1, c147_1, A147_2, c147_2, A147_3, c147_3, A147_4, c147_4, A147_5, c147_5, A147_6, c147_6, e147, hx147_0, hx147_1, hx147_2, hx147_3, hx147_4, hx147_5, hx147_6, hl147_1, hi147_1, hl147_2, hi147_2, hl147_3, hi147_3, hl147_4, hi147_4, hl147_5, hi147_5, hl147_6, hi147_6⟩ := at_T39 HR0.out x3_1 p147 q147
                                  obtain rfl : ad146 = ad147 := (by injection e147)
                                  replace hx147_0 := (HB.out.cell (World.block_lt_of_cell? w _ hx147_0)).trans hx147_0
                                  replace hx147_1 := (HB.out.cell (World.block_lt_of_cell? w _ hx147_1)).trans hx147_1
                                  replace hx147_2 := (HB.out.cell (World.block_lt_of_cell? w _ hx147_2)).trans hx147_2
                                  replace hx147_3 := (HB.out.cell (World.block_lt_of_cell? w _ hx147_3)).trans hx147_3
                                  replace hx147_4 := (HB.out.cell (World.block_lt_of_cell? w _ hx147_4)).trans hx147_4
                                  replace hx147_5 := (HB.out.cell (World.block_lt_of_cell? w _ hx147_5)).trans hx147_5
                                  replace hx147_6 := (HB.out.cell (World.block_lt_of_cell? w _ hx147_6)).trans hx147_6
                                  have HR147_1 := Aside0.mk hi147_1
                                  have HC147_1 := Aside0.mk hl147_1
                                  clear hi147_1 hl147_1
                                  have HR147_2 := Aside0.mk hi147_2
                                  have HC147_2 := Aside0.mk hl147_2
                                  clear hi147_2 hl147_2
                                  have HR147_3 := Aside0.mk hi147_3
                                  have HC147_3 := Aside0.mk hl147_3
                                  clear hi147_3 hl147_3
                                  have HR147_4 := Aside0.mk hi147_4
                                  have HC147_4 := Aside0.mk hl147_4
                                  clear hi147_4 hl147_4
                                  have HR147_5 := Aside0.mk hi147_5
                                  have HC147_5 := Aside0.mk hl147_5
                                  clear hi147_5 hl147_5
                                  have HR147_6 := Aside0.mk hi147_6
                                  have HC147_6 := Aside0.mk hl147_6
                                  clear hi147_6 hl147_6
                                  replace p147 := eq_true p147
                                  replace q147 := eq_true q147
                                  have p148 : 0 ≤ (x3_1 : Int) := of_decide_eq_true (by first | (with_reducible assumption) | assumption)
                                  have q148 : x3_1 < (l0.length : Int) := of_decide_eq_true (by first | (with_reducible assumption) | assumption)
                                  obtain ⟨ad148, A148_1, c148_1, A148_2, c148_2, A148_3, c148_3, A148_4, c148_4, A148_5, c148_5, A148_6, c148_6, e148, hx148_0, hx148_1, hx148_2, hx148_3, hx148_4, hx148_5, hx148_6, hl148_1, hi148_1, hl148_2, hi148_2, hl148_3, hi148_3, hl148_4, hi148_4, hl148_5, hi148_5, hl148_6, hi148_6⟩ := at_T39 HR0.out x3_1 p148 q148
                                  obtain rfl : ad146 = ad148 := (by injection e148)
                                  replace hx148_0 := (HB.out.cell (World.block_lt_of_cell? w _ hx148_0)).trans hx148_0
                                  replace hx148_1 := (HB.out.cell (World.block_lt_of_cell? w _ hx148_1)).trans hx148_1
                                  replace hx148_2 := (HB.out.cell (World.block_lt_of_cell? w _ hx148_2)).trans hx148_2
                                  replace hx148_3 := (HB.out.cell (World.block_lt_of_cell? w _ hx148_3)).trans hx148_3
                                  replace hx148_4 := (HB.out.cell (World.block_lt_of_cell? w _ hx148_4)).trans hx148_4
                                  replace hx148_5 := (HB.out.cell (World.block_lt_of_cell? w _ hx148_5)).trans hx148_5
                                  replace hx148_6 := (HB.out.cell (World.block_lt_of_cell? w _ hx148_6)).trans hx148_6
                                  have HR148_1 := Aside0.mk hi148_1
                                  have HC148_1 := Aside0.mk hl148_1
                                  clear hi148_1 hl148_1
                                  have HR148_2 := Aside0.mk hi148_2
                                  have HC148_2 := Aside0.mk hl148_2
                                  clear hi148_2 hl148_2
                                  have HR148_3 := Aside0.mk hi148_3
                                  have HC148_3 := Aside0.mk hl148_3
                                  clear hi148_3 hl148_3
                                  have HR148_4 := Aside0.mk hi148_4
                                  have HC148_4 := Aside0.mk hl148_4
                                  clear hi148_4 hl148_4
                                  have HR148_5 := Aside0.mk hi148_5
                                  have HC148_5 := Aside0.mk hl148_5
                                  clear hi148_5 hl148_5
                                  have HR148_6 := Aside0.mk hi148_6
                                  have HC148_6 := Aside0.mk hl148_6
                                  clear hi148_6 hl148_6
                                  replace p148 := eq_true p148
                                  replace q148 := eq_true q148
                                  have ea_ := Option.some.inj (hx147_1.symm.trans hx148_1)
                                  injection ea_ with ea_ en_ ec_
                                  subst ea_
                                  subst ec_
                                  clear en_
                                  have ea_ := Option.some.inj (hx147_2.symm.trans hx148_2)
                                  injection ea_ with ea_ en_ ec_
                                  subst ea_
                                  subst ec_
                                  clear en_
                                  have ea_ := Option.some.inj (hx147_3.symm.trans hx148_3)
                                  injection ea_ with ea_ en_ ec_
                                  subst ea_
                                  subst ec_
                                  clear en_
                                  have ea_ := Option.some.inj (hx147_4.symm.trans hx148_4)
                                  injection ea_ with ea_ en_ ec_
                                  subst ea_
                                  subst ec_
                                  clear en_
                                  have ea_ := Option.some.inj (hx147_5.symm.trans hx148_5)
                                  injection ea_ with ea_ en_ ec_
                                  subst ea_
                                  subst ec_
                                  clear en_
                                  have ea_ := Option.some.inj (hx147_6.symm.trans hx148_6)
                                  injection ea_ with ea_ en_ ec_
                                  subst ea_
                                  subst ec_
                                  clear en_
                                  have p149 : 0 ≤ (x4_2 : Int) := of_decide_eq_true (by first | (with_reducible assumption) | assumption)
                                  have q149 : x4_2 < (((rd_T39 l0 x3_1).f3).length : Int) := of_decide_eq_true (by first | (with_reducible assumption) | assumption)
                                  obtain ⟨ad149, e149, hx149_0, hx149_1, hx149_2, hx149_3, hx149_4, hx149_5, hx149_6, hx149_7⟩ := at_T42 HR148_3.out x4_2 p149 q149
                                  cases e149
                                  replace hx149_0 := (HB.out.cell (World.block_lt_of_cell? w _ hx149_0)).trans hx149_0
                                  replace hx149_1 := (HB.out.cell (World.block_lt_of_cell? w _ hx149_1)).trans hx149_1
                                  replace hx149_2 := (HB.out.cell (World.block_lt_of_cell? w _ hx149_2)).trans hx149_2
                                  replace hx149_3 := (HB.out.cell (World.block_lt_of_cell? w _ hx149_3)).trans hx149_3
                                  replace hx149_4 := (HB.out.cell (World.block_lt_of_cell? w _ hx149_4)).trans hx149_4
                                  replace hx149_5 := (HB.out.cell (World.block_lt_of_cell? w _ hx149_5)).trans hx149_5
                                  replace hx149_6 := (HB.out.cell (World.block_lt_of_cell? w _ hx149_6)).trans hx149_6
                                  replace hx149_7 := (HB.out.cell (World.block_lt_of_cell? w _ hx149_7)).trans hx149_7
                                  replace p149 := eq_true p149
                                  replace q149 := eq_true q149
                                  go_wp2_with (first | ((with_reducible refine gate_dst (N := 5) rfl ?_); (try (refine gate_guard (by rfl) ?_; dsimp only)); refine box_event ?hg (N := 5) ?hd (cs := #[.string (⟨#[]⟩ : ByteArray), .string (⟨#[]⟩ : ByteArray), .int .u64 0, .int .u64 0, .int .i64 0, .int .i64 0, .int .i64 0, .bool false]) (t := 42) ?hr ?_; (case hd => rfl); (case hg => rfl); (case hr => first | (go_simp; done) | (go_simp; rfl)); intro gb150 hg w26 hbox hb; have n0_ := Aside0.mk (below_step (by repeat (first | (with_reducible first | exact HB.out | apply below_alloc | apply pw_below_drewN | apply below_drew1) | exact HB.out)) hb); have n1_ := Aside0.mk (hbox); have n2_ := Aside0.mk ((by rw [hg]; exact (below_size (by repeat (first | (with_reducible first | exact HB.out | apply below_alloc | apply pw_below_drewN | apply below_drew1) | exact HB.out))) : w.heap.size ≤ gb150)); have n3_ := n2_; clear HB; have HB := n0_; have BK150 := n1_; have GW150 := n2_; have GE150 := n3_; clear n0_ n1_ n2_ n3_; clear hb hbox hg; obtain ⟨hcz27_0, hcz27_1, hcz27_2, hcz27_3, hcz27_4, hcz27_5, hcz27_6, hcz27_7, hfz27_0, hfz27_1, hfz27_2, hfz27_3, hfz27_4, hfz27_5, hfz27_6, hfz27_7⟩ := cells8 BK150.out) | ((with_reducible refine gate_store (t := 42) (p := 5) rfl ?_); refine store_event (t := 42) (p := 5) (v := ?vo_w28) (w1 := ((((((((w26.setCell ⟨gb150, 0, none⟩ (.string ((rd_T42 ((rd_T39 l0 x3_1).f3) x4_2).f0))).setCell ⟨gb150, 1, none⟩ (.string ((rd_T42 ((rd_T39 l0 x3_1).f3) x4_2).f1))).setCell ⟨gb150, 2, none⟩ (.int .u64 ((rd_T42 ((rd_T39 l0 x3_1).f3) x4_2).f2))).setCell ⟨gb150, 3, none⟩ (.int .u64 ((rd_T42 ((rd_T39 l0 x3_1).f3) x4_2).f3))).setCell ⟨gb150, 4, none⟩ (.int .i64 ((rd_T42 ((rd_T39 l0 x3_1).f3) x4_2).f4))).setCell ⟨gb150, 5, none⟩ (.int .i64 ((rd_T42 ((rd_T39 l0 x3_1).f3) x4_2).f5))).setCell ⟨gb150, 6, none⟩ (.int .i64 ((rd_T42 ((rd_T39 l0 x3_1).f3) x4_2).f6))).setCell ⟨gb150, 7, none⟩ (.bool ((rd_T42 ((rd_T39 l0 x3_1).f3) x4_2).f7)))) ?hg ?ho ?hn ?hr ?_; (case ho => rfl); (case hg => rfl); (case hn => rfl); (case hr => first | (go_simp; done) | (go_simp; rfl)); intro w28 hw; have n0_ : Aside0 (w28.heap[gb150]? = some (.cells #[.string ((rd_T42 ((rd_T39 l0 x3_1).f3) x4_2).f0), .string ((rd_T42 ((rd_T39 l0 x3_1).f3) x4_2).f1), .int .u64 ((rd_T42 ((rd_T39 l0 x3_1).f3) x4_2).f2), .int .u64 ((rd_T42 ((rd_T39 l0 x3_1).f3) x4_2).f3), .int .i64 ((rd_T42 ((rd_T39 l0 x3_1).f3) x4_2).f4), .int .i64 ((rd_T42 ((rd_T39 l0 x3_1).f3) x4_2).f5), .int .i64 ((rd_T42 ((rd_T39 l0 x3_1).f3) x4_2).f6), .bool ((rd_T42 ((rd_T39 l0 x3_1).f3) x4_2).f7)] 42 (0, 0))) := ⟨(by rw [hw]; exact (by (with_reducible repeat (first | refine blk_drewN ?_ _ | refine blk_drew ?_ | refine blk_alloc ?_ _)); refine blk_put (cs := #[.string ((rd_T42 ((rd_T39 l0 x3_1).f3) x4_2).f0), .string ((rd_T42 ((rd_T39 l0 x3_1).f3) x4_2).f1), .int .u64 ((rd_T42 ((rd_T39 l0 x3_1).f3) x4_2).f2), .int .u64 ((rd_T42 ((rd_T39 l0 x3_1).f3) x4_2).f3), .int .i64 ((rd_T42 ((rd_T39 l0 x3_1).f3) x4_2).f4), .int .i64 ((rd_T42 ((rd_T39 l0 x3_1).f3) x4_2).f5), .int .i64 ((rd_T42 ((rd_T39 l0 x3_1).f3) x4_2).f6), .bool false]) ?_ 7 _ rfl; (with_reducible repeat (first | refine blk_drewN ?_ _ | refine blk_drew ?_ | refine blk_alloc ?_ _)); refine blk_put (cs := #[.string ((rd_T42 ((rd_T39 l0 x3_1).f3) x4_2).f0), .string ((rd_T42 ((rd_T39 l0 x3_1).f3) x4_2).f1), .int .u64 ((rd_T42 ((rd_T39 l0 x3_1).f3) x4_2).f2), .int .u64 ((rd_T42 ((rd_T39 l0 x3_1).f3) x4_2).f3), .int .i64 ((rd_T42 ((rd_T39 l0 x3_1).f3) x4_2).f4), .int .i64 ((rd_T42 ((rd_T39 l0 x3_1).f3) x4_2).f5), .int .i64 0, .bool false]) ?_ 6 _ rfl; (with_reducible repeat (first | refine blk_drewN ?_ _ | refine blk_drew ?_ | refine blk_alloc ?_ _)); refine blk_put (cs := #[.string ((rd_T42 ((rd_T39 l0 x3_1).f3) x4_2).f0), .string ((rd_T42 ((rd_T39 l0 x3_1).f3) x4_2).f1), .int .u64 ((rd_T42 ((rd_T39 l0 x3_1).f3) x4_2).f2), .int .u64 ((rd_T42 ((rd_T39 l0 x3_1).f3) x4_2).f3), .int .i64 ((rd_T42 ((rd_T39 l0 x3_1).f3) x4_2).f4), .int .i64 0, .int .i64 0, .bool false]) ?_ 5 _ rfl; (with_reducible repeat (first | refine blk_drewN ?_ _ | refine blk_drew ?_ | refine blk_alloc ?_ _)); refine blk_put (cs := #[.string ((rd_T42 ((rd_T39 l0 x3_1).f3) x4_2).f0), .string ((rd_T42 ((rd_T39 l0 x3_1).f3) x4_2).f1), .int .u64 ((rd_T42 ((rd_T39 l0 x3_1).f3) x4_2).f2), .int .u64 ((rd_T42 ((rd_T39 l0 x3_1).f3) x4_2).f3), .int .i64 0, .int .i64 0, .int .i64 0, .bool false]) ?_ 4 _ rfl; (with_reducible repeat (first | refine blk_drewN ?_ _ | refine blk_drew ?_ | refine blk_alloc ?_ _)); refine blk_put (cs := #[.string ((rd_T42 ((rd_T39 l0 x3_1).f3) x4_2).f0), .string ((rd_T42 ((rd_T39 l0 x3_1).f3) x4_2).f1), .int .u64 ((rd_T42 ((rd_T39 l0 x3_1).f3) x4_2).f2), .int .u64 0, .int .i64 0, .int .i64 0, .int .i64 0, .bool false]) ?_ 3 _ rfl; (with_reducible repeat (first | refine blk_drewN ?_ _ | refine blk_drew ?_ | refine blk_alloc ?_ _)); refine blk_put (cs := #[.string ((rd_T42 ((rd_T39 l0 x3_1).f3) x4_2).f0), .string ((rd_T42 ((rd_T39 l0 x3_1).f3) x4_2).f1), .int .u64 0, .int .u64 0, .int .i64 0, .int .i64 0, .int .i64 0, .bool false]) ?_ 2 _ rfl; (with_reducible repeat (first | refine blk_drewN ?_ _ | refine blk_drew ?_ | refine blk_alloc ?_ _)); refine blk_put (cs := #[.string ((rd_T42 ((rd_T39 l0 x3_1).f3) x4_2).f0), .string (⟨#[]⟩ : ByteArray), .int .u64 0, .int .u64 0, .int .i64 0, .int .i64 0, .int .i64 0, .bool false]) ?_ 1 _ rfl; (with_reducible repeat (first | refine blk_drewN ?_ _ | refine blk_drew ?_ | refine blk_alloc ?_ _)); refine blk_put (cs := #[.string (⟨#[]⟩ : ByteArray), .string (⟨#[]⟩ : ByteArray), .int .u64 0, .int .u64 0, .int .i64 0, .int .i64 0, .int .i64 0, .bool false]) ?_ 0 _ rfl; (with_reducible repeat (first | refine blk_drewN ?_ _ | refine blk_drew ?_ | refine blk_alloc ?_ _)); exact BK150.out))⟩; have n1_ : Aside0 (Below w.heap.size w w28) := ⟨(by rw [hw]; exact (by repeat (first | (with_reducible first | exact HB.out | apply below_alloc | apply pw_below_drewN | apply below_drew1 | refine below_set ?_ GE150.out) | exact HB.out)))⟩; clear hw; clear BK150; clear HB; have BK150 := n0_; have HB := n1_; clear n0_ n1_; obtain ⟨hcz29_0, hcz29_1, hcz29_2, hcz29_3, hcz29_4, hcz29_5, hcz29_6, hcz29_7, hfz29_0, hfz29_1, hfz29_2, hfz29_3, hfz29_4, hfz29_5, hfz29_6, hfz29_7⟩ := cells8 BK150.out))
                                  go_ret
                                  exact ⟨by first | rfl | (simp [errW_none, errW_some] <;> rfl) | (simp [*, errW_none, errW_some] <;> rfl), by repeat (first | (with_reducible first | exact HB.out | apply below_alloc | apply pw_below_drewN | apply below_drew1 | refine below_set ?_ GE150.out) | exact HB.out)⟩
                                · rw [if_neg c25] at H
                                  have c25b0 : decide (2 < ((rd_T42 ((rd_T39 l0 x3_1).f3) x4_2).f6)) = false := decide_eq_false c25
                                  clear c25
                                  by_cases c30 : (((rd_T42 ((rd_T39 l0 x3_1).f3) x4_2).f0).size : Int) > 100
                                  · rw [if_pos c30] at H
                                    have c30b0 : decide (100 < (((rd_T42 ((rd_T39 l0 x3_1).f3) x4_2).f0).size : Int)) = true := decide_eq_true c30
                                    have c30b1 : decide (100 < ((rd_T42 ((rd_T39 l0 x3_1).f3) x4_2).f0).size) = true := decide_eq_true (by omega)
                                    clear c30
                                    obtain rfl := Option.some.inj H
                                    have p147 : 0 ≤ (x3_1 : Int) := of_decide_eq_true (by first | (with_reducible assumption) | assumption)
                                    have q147 : x3_1 < (l0.length : Int) := of_decide_eq_true (by first | (with_reducible assumption) | assumption)
                                    obtain ⟨ad147, A147_1, c147_1, A147_2, c147_2, A147_3, c147_3, A147_4, c147_4, A147_5, c147_5, A147_6, c147_6, e147, hx147_0, hx147_1, hx147_2, hx147_3, hx147_4, hx147_5, hx147_6, hl147_1, hi147_1, hl147_2, hi147_2, hl147_3, hi147_3, hl147_4, hi147_4, hl147_5, hi147_5, hl147_6, hi147_6⟩ := at_T39 HR0.out x3_1 p147 q147
                                    obtain rfl : ad146 = ad147 := (by injection e147)
                                    replace hx147_0 := (HB.out.cell (World.block_lt_of_cell? w _ hx147_0)).trans hx147_0
                                    replace hx147_1 := (HB.out.cell (World.block_lt_of_cell? w _ hx147_1)).trans hx147_1
                                    replace hx147_2 := (HB.out.cell (World.block_lt_of_cell? w _ hx147_2)).trans hx147_2
                                    replace hx147_3 := (HB.out.cell (World.block_lt_of_cell? w _ hx147_3)).trans hx147_3
                                    replace hx147_4 := (HB.out.cell (World.block_lt_of_cell? w _ hx147_4)).trans hx147_4
                                    replace hx147_5 := (HB.out.cell (World.block_lt_of_cell? w _ hx147_5)).trans hx147_5
                                    replace hx147_6 := (HB.out.cell (World.block_lt_of_cell? w _ hx147_6)).trans hx147_6
                                    have HR147_1 := Aside0.mk hi147_1
                                    have HC147_1 := Aside0.mk hl147_1
                                    clear hi147_1 hl147_1
                                    have HR147_2 := Aside0.mk hi147_2
                                    have HC147_2 := Aside0.mk hl147_2
                                    clear hi147_2 hl147_2
                                    have HR147_3 := Aside0.mk hi147_3
                                    have HC147_3 := Aside0.mk hl147_3
                                    clear hi147_3 hl147_3
                                    have HR147_4 := Aside0.mk hi147_4
                                    have HC147_4 := Aside0.mk hl147_4
                                    clear hi147_4 hl147_4
                                    have HR147_5 := Aside0.mk hi147_5
                                    have HC147_5 := Aside0.mk hl147_5
                                    clear hi147_5 hl147_5
                                    have HR147_6 := Aside0.mk hi147_6
                                    have HC147_6 := Aside0.mk hl147_6
                                    clear hi147_6 hl147_6
                                    replace p147 := eq_true p147
                                    replace q147 := eq_true q147
                                    have p148 : 0 ≤ (x3_1 : Int) := of_decide_eq_true (by first | (with_reducible assumption) | assumption)
                                    have q148 : x3_1 < (l0.length : Int) := of_decide_eq_true (by first | (with_reducible assumption) | assumption)
                                    obtain ⟨ad148, A148_1, c148_1, A148_2, c148_2, A148_3, c148_3, A148_4, c148_4, A148_5, c148_5, A148_6, c148_6, e148, hx148_0, hx148_1, hx148_2, hx148_3, hx148_4, hx148_5, hx148_6, hl148_1, hi148_1, hl148_2, hi148_2, hl148_3, hi148_3, hl148_4, hi148_4, hl148_5, hi148_5, hl148_6, hi148_6⟩ := at_T39 HR0.out x3_1 p148 q148
                                    obtain rfl : ad146 = ad148 := (by injection e148)
                                    replace hx148_0 := (HB.out.cell (World.block_lt_of_cell? w _ hx148_0)).trans hx148_0
                                    replace hx148_1 := (HB.out.cell (World.block_lt_of_cell? w _ hx148_1)).trans hx148_1
                                    replace hx148_2 := (HB.out.cell (World.block_lt_of_cell? w _ hx148_2)).trans hx148_2
                                    replace hx148_3 := (HB.out.cell (World.block_lt_of_cell? w _ hx148_3)).trans hx148_3
                                    replace hx148_4 := (HB.out.cell (World.block_lt_of_cell? w _ hx148_4)).trans hx148_4
                                    replace hx148_5 := (HB.out.cell (World.block_lt_of_cell? w _ hx148_5)).trans hx148_5
                                    replace hx148_6 := (HB.out.cell (World.block_lt_of_cell? w _ hx148_6)).trans hx148_6
                                    have HR148_1 := Aside0.mk hi148_1
                                    have HC148_1 := Aside0.mk hl148_1
                                    clear hi148_1 hl148_1
                                    have HR148_2 := Aside0.mk hi148_2
                                    have HC148_2 := Aside0.mk hl148_2
                                    clear hi148_2 hl148_2
                                    have HR148_3 := Aside0.mk hi148_3
                                    have HC148_3 := Aside0.mk hl148_3
                                    clear hi148_3 hl148_3
                                    have HR148_4 := Aside0.mk hi148_4
                                    have HC148_4 := Aside0.mk hl148_4
                                    clear hi148_4 hl148_4
                                    have HR148_5 := Aside0.mk hi148_5
                                    have HC148_5 := Aside0.mk hl148_5
                                    clear hi148_5 hl148_5
                                    have HR148_6 := Aside0.mk hi148_6
                                    have HC148_6 := Aside0.mk hl148_6
                                    clear hi148_6 hl148_6
                                    replace p148 := eq_true p148
                                    replace q148 := eq_true q148
                                    have ea_ := Option.some.inj (hx147_1.symm.trans hx148_1)
                                    injection ea_ with ea_ en_ ec_
                                    subst ea_
                                    subst ec_
                                    clear en_
                                    have ea_ := Option.some.inj (hx147_2.symm.trans hx148_2)
                                    injection ea_ with ea_ en_ ec_
                                    subst ea_
                                    subst ec_
                                    clear en_
                                    have ea_ := Option.some.inj (hx147_3.symm.trans hx148_3)
                                    injection ea_ with ea_ en_ ec_
                                    subst ea_
                                    subst ec_
                                    clear en_
                                    have ea_ := Option.some.inj (hx147_4.symm.trans hx148_4)
                                    injection ea_ with ea_ en_ ec_
                                    subst ea_
                                    subst ec_
                                    clear en_
                                    have ea_ := Option.some.inj (hx147_5.symm.trans hx148_5)
                                    injection ea_ with ea_ en_ ec_
                                    subst ea_
                                    subst ec_
                                    clear en_
                                    have ea_ := Option.some.inj (hx147_6.symm.trans hx148_6)
                                    injection ea_ with ea_ en_ ec_
                                    subst ea_
                                    subst ec_
                                    clear en_
                                    have p149 : 0 ≤ (x4_2 : Int) := of_decide_eq_true (by first | (with_reducible assumption) | assumption)
                                    have q149 : x4_2 < (((rd_T39 l0 x3_1).f3).length : Int) := of_decide_eq_true (by first | (with_reducible assumption) | assumption)
                                    obtain ⟨ad149, e149, hx149_0, hx149_1, hx149_2, hx149_3, hx149_4, hx149_5, hx149_6, hx149_7⟩ := at_T42 HR148_3.out x4_2 p149 q149
                                    cases e149
                                    replace hx149_0 := (HB.out.cell (World.block_lt_of_cell? w _ hx149_0)).trans hx149_0
                                    replace hx149_1 := (HB.out.cell (World.block_lt_of_cell? w _ hx149_1)).trans hx149_1
                                    replace hx149_2 := (HB.out.cell (World.block_lt_of_cell? w _ hx149_2)).trans hx149_2
                                    replace hx149_3 := (HB.out.cell (World.block_lt_of_cell? w _ hx149_3)).trans hx149_3
                                    replace hx149_4 := (HB.out.cell (World.block_lt_of_cell? w _ hx149_4)).trans hx149_4
                                    replace hx149_5 := (HB.out.cell (World.block_lt_of_cell? w _ hx149_5)).trans hx149_5
                                    replace hx149_6 := (HB.out.cell (World.block_lt_of_cell? w _ hx149_6)).trans hx149_6
                                    replace hx149_7 := (HB.out.cell (World.block_lt_of_cell? w _ hx149_7)).trans hx149_7
                                    replace p149 := eq_true p149
                                    replace q149 := eq_true q149
                                    go_wp2_with (first | ((with_reducible refine gate_dst (N := 5) rfl ?_); (try (refine gate_guard (by rfl) ?_; dsimp only)); refine box_event ?hg (N := 5) ?hd (cs := #[.string (⟨#[]⟩ : ByteArray), .string (⟨#[]⟩ : ByteArray), .int .u64 0, .int .u64 0, .int .i64 0, .int .i64 0, .int .i64 0, .bool false]) (t := 42) ?hr ?_; (case hd => rfl); (case hg => rfl); (case hr => first | (go_simp; done) | (go_simp; rfl)); intro gb150 hg w31 hbox hb; have n0_ := Aside0.mk (below_step (by repeat (first | (with_reducible first | exact HB.out | apply below_alloc | apply pw_below_drewN | apply below_drew1) | exact HB.out)) hb); have n1_ := Aside0.mk (hbox); have n2_ := Aside0.mk ((by rw [hg]; exact (below_size (by repeat (first | (with_reducible first | exact HB.out | apply below_alloc | apply pw_below_drewN | apply below_drew1) | exact HB.out))) : w.heap.size ≤ gb150)); have n3_ := n2_; clear HB; have HB := n0_; have BK150 := n1_; have GW150 := n2_; have GE150 := n3_; clear n0_ n1_ n2_ n3_; clear hb hbox hg; obtain ⟨hcz32_0, hcz32_1, hcz32_2, hcz32_3, hcz32_4, hcz32_5, hcz32_6, hcz32_7, hfz32_0, hfz32_1, hfz32_2, hfz32_3, hfz32_4, hfz32_5, hfz32_6, hfz32_7⟩ := cells8 BK150.out) | ((with_reducible refine gate_store (t := 42) (p := 5) rfl ?_); refine store_event (t := 42) (p := 5) (v := ?vo_w33) (w1 := ((((((((w31.setCell ⟨gb150, 0, none⟩ (.string ((rd_T42 ((rd_T39 l0 x3_1).f3) x4_2).f0))).setCell ⟨gb150, 1, none⟩ (.string ((rd_T42 ((rd_T39 l0 x3_1).f3) x4_2).f1))).setCell ⟨gb150, 2, none⟩ (.int .u64 ((rd_T42 ((rd_T39 l0 x3_1).f3) x4_2).f2))).setCell ⟨gb150, 3, none⟩ (.int .u64 ((rd_T42 ((rd_T39 l0 x3_1).f3) x4_2).f3))).setCell ⟨gb150, 4, none⟩ (.int .i64 ((rd_T42 ((rd_T39 l0 x3_1).f3) x4_2).f4))).setCell ⟨gb150, 5, none⟩ (.int .i64 ((rd_T42 ((rd_T39 l0 x3_1).f3) x4_2).f5))).setCell ⟨gb150, 6, none⟩ (.int .i64 ((rd_T42 ((rd_T39 l0 x3_1).f3) x4_2).f6))).setCell ⟨gb150, 7, none⟩ (.bool ((rd_T42 ((rd_T39 l0 x3_1).f3) x4_2).f7)))) ?hg ?ho ?hn ?hr ?_; (case ho => rfl); (case hg => rfl); (case hn => rfl); (case hr => first | (go_simp; done) | (go_simp; rfl)); intro w33 hw; have n0_ : Aside0 (w33.heap[gb150]? = some (.cells #[.string ((rd_T42 ((rd_T39 l0 x3_1).f3) x4_2).f0), .string ((rd_T42 ((rd_T39 l0 x3_1).f3) x4_2).f1), .int .u64 ((rd_T42 ((rd_T39 l0 x3_1).f3) x4_2).f2), .int .u64 ((rd_T42 ((rd_T39 l0 x3_1).f3) x4_2).f3), .int .i64 ((rd_T42 ((rd_T39 l0 x3_1).f3) x4_2).f4), .int .i64 ((rd_T42 ((rd_T39 l0 x3_1).f3) x4_2).f5), .int .i64 ((rd_T42 ((rd_T39 l0 x3_1).f3) x4_2).f6), .bool ((rd_T42 ((rd_T39 l0 x3_1).f3) x4_2).f7)] 42 (0, 0))) := ⟨(by rw [hw]; exact (by (with_reducible repeat (first | refine blk_drewN ?_ _ | refine blk_drew ?_ | refine blk_alloc ?_ _)); refine blk_put (cs := #[.string ((rd_T42 ((rd_T39 l0 x3_1).f3) x4_2).f0), .string ((rd_T42 ((rd_T39 l0 x3_1).f3) x4_2).f1), .int .u64 ((rd_T42 ((rd_T39 l0 x3_1).f3) x4_2).f2), .int .u64 ((rd_T42 ((rd_T39 l0 x3_1).f3) x4_2).f3), .int .i64 ((rd_T42 ((rd_T39 l0 x3_1).f3) x4_2).f4), .int .i64 ((rd_T42 ((rd_T39 l0 x3_1).f3) x4_2).f5), .int .i64 ((rd_T42 ((rd_T39 l0 x3_1).f3) x4_2).f6), .bool false]) ?_ 7 _ rfl; (with_reducible repeat (first | refine blk_drewN ?_ _ | refine blk_drew ?_ | refine blk_alloc ?_ _)); refine blk_put (cs := #[.string ((rd_T42 ((rd_T39 l0 x3_1).f3) x4_2).f0), .string ((rd_T42 ((rd_T39 l0 x3_1).f3) x4_2).f1), .int .u64 ((rd_T42 ((rd_T39 l0 x3_1).f3) x4_2).f2), .int .u64 ((rd_T42 ((rd_T39 l0 x3_1).f3) x4_2).f3), .int .i64 ((rd_T42 ((rd_T39 l0 x3_1).f3) x4_2).f4), .int .i64 ((rd_T42 ((rd_T39 l0 x3_1).f3) x4_2).f5), .int .i64 0, .bool false]) ?_ 6 _ rfl; (with_reducible repeat (first | refine blk_drewN ?_ _ | refine blk_drew ?_ | refine blk_alloc ?_ _)); refine blk_put (cs := #[.string ((rd_T42 ((rd_T39 l0 x3_1).f3) x4_2).f0), .string ((rd_T42 ((rd_T39 l0 x3_1).f3) x4_2).f1), .int .u64 ((rd_T42 ((rd_T39 l0 x3_1).f3) x4_2).f2), .int .u64 ((rd_T42 ((rd_T39 l0 x3_1).f3) x4_2).f3), .int .i64 ((rd_T42 ((rd_T39 l0 x3_1).f3) x4_2).f4), .int .i64 0, .int .i64 0, .bool false]) ?_ 5 _ rfl; (with_reducible repeat (first | refine blk_drewN ?_ _ | refine blk_drew ?_ | refine blk_alloc ?_ _)); refine blk_put (cs := #[.string ((rd_T42 ((rd_T39 l0 x3_1).f3) x4_2).f0), .string ((rd_T42 ((rd_T39 l0 x3_1).f3) x4_2).f1), .int .u64 ((rd_T42 ((rd_T39 l0 x3_1).f3) x4_2).f2), .int .u64 ((rd_T42 ((rd_T39 l0 x3_1).f3) x4_2).f3), .int .i64 0, .int .i64 0, .int .i64 0, .bool false]) ?_ 4 _ rfl; (with_reducible repeat (first | refine blk_drewN ?_ _ | refine blk_drew ?_ | refine blk_alloc ?_ _)); refine blk_put (cs := #[.string ((rd_T42 ((rd_T39 l0 x3_1).f3) x4_2).f0), .string ((rd_T42 ((rd_T39 l0 x3_1).f3) x4_2).f1), .int .u64 ((rd_T42 ((rd_T39 l0 x3_1).f3) x4_2).f2), .int .u64 0, .int .i64 0, .int .i64 0, .int .i64 0, .bool false]) ?_ 3 _ rfl; (with_reducible repeat (first | refine blk_drewN ?_ _ | refine blk_drew ?_ | refine blk_alloc ?_ _)); refine blk_put (cs := #[.string ((rd_T42 ((rd_T39 l0 x3_1).f3) x4_2).f0), .string ((rd_T42 ((rd_T39 l0 x3_1).f3) x4_2).f1), .int .u64 0, .int .u64 0, .int .i64 0, .int .i64 0, .int .i64 0, .bool false]) ?_ 2 _ rfl; (with_reducible repeat (first | refine blk_drewN ?_ _ | refine blk_drew ?_ | refine blk_alloc ?_ _)); refine blk_put (cs := #[.string ((rd_T42 ((rd_T39 l0 x3_1).f3) x4_2).f0), .string (⟨#[]⟩ : ByteArray), .int .u64 0, .int .u64 0, .int .i64 0, .int .i64 0, .int .i64 0, .bool false]) ?_ 1 _ rfl; (with_reducible repeat (first | refine blk_drewN ?_ _ | refine blk_drew ?_ | refine blk_alloc ?_ _)); refine blk_put (cs := #[.string (⟨#[]⟩ : ByteArray), .string (⟨#[]⟩ : ByteArray), .int .u64 0, .int .u64 0, .int .i64 0, .int .i64 0, .int .i64 0, .bool false]) ?_ 0 _ rfl; (with_reducible repeat (first | refine blk_drewN ?_ _ | refine blk_drew ?_ | refine blk_alloc ?_ _)); exact BK150.out))⟩; have n1_ : Aside0 (Below w.heap.size w w33) := ⟨(by rw [hw]; exact (by repeat (first | (with_reducible first | exact HB.out | apply below_alloc | apply pw_below_drewN | apply below_drew1 | refine below_set ?_ GE150.out) | exact HB.out)))⟩; clear hw; clear BK150; clear HB; have BK150 := n0_; have HB := n1_; clear n0_ n1_; obtain ⟨hcz34_0, hcz34_1, hcz34_2, hcz34_3, hcz34_4, hcz34_5, hcz34_6, hcz34_7, hfz34_0, hfz34_1, hfz34_2, hfz34_3, hfz34_4, hfz34_5, hfz34_6, hfz34_7⟩ := cells8 BK150.out))
                                    go_ret
                                    exact ⟨by first | rfl | (simp [errW_none, errW_some] <;> rfl) | (simp [*, errW_none, errW_some] <;> rfl), by repeat (first | (with_reducible first | exact HB.out | apply below_alloc | apply pw_below_drewN | apply below_drew1 | refine below_set ?_ GE150.out) | exact HB.out)⟩
                                  · rw [if_neg c30] at H
                                    have c30b0 : decide (100 < (((rd_T42 ((rd_T39 l0 x3_1).f3) x4_2).f0).size : Int)) = false := decide_eq_false c30
                                    have c30b1 : decide (100 < ((rd_T42 ((rd_T39 l0 x3_1).f3) x4_2).f0).size) = false := decide_eq_false (by omega)
                                    clear c30
                                    have H' := Aside0.mk H
                                    clear H
                                    have p147 : 0 ≤ (x3_1 : Int) := of_decide_eq_true (by first | (with_reducible assumption) | assumption)
                                    have q147 : x3_1 < (l0.length : Int) := of_decide_eq_true (by first | (with_reducible assumption) | assumption)
                                    obtain ⟨ad147, A147_1, c147_1, A147_2, c147_2, A147_3, c147_3, A147_4, c147_4, A147_5, c147_5, A147_6, c147_6, e147, hx147_0, hx147_1, hx147_2, hx147_3, hx147_4, hx147_5, hx147_6, hl147_1, hi147_1, hl147_2, hi147_2, hl147_3, hi147_3, hl147_4, hi147_4, hl147_5, hi147_5, hl147_6, hi147_6⟩ := at_T39 HR0.out x3_1 p147 q147
                                    obtain rfl : ad146 = ad147 := (by injection e147)
                                    replace hx147_0 := (HB.out.cell (World.block_lt_of_cell? w _ hx147_0)).trans hx147_0
                                    replace hx147_1 := (HB.out.cell (World.block_lt_of_cell? w _ hx147_1)).trans hx147_1
                                    replace hx147_2 := (HB.out.cell (World.block_lt_of_cell? w _ hx147_2)).trans hx147_2
                                    replace hx147_3 := (HB.out.cell (World.block_lt_of_cell? w _ hx147_3)).trans hx147_3
                                    replace hx147_4 := (HB.out.cell (World.block_lt_of_cell? w _ hx147_4)).trans hx147_4
                                    replace hx147_5 := (HB.out.cell (World.block_lt_of_cell? w _ hx147_5)).trans hx147_5
                                    replace hx147_6 := (HB.out.cell (World.block_lt_of_cell? w _ hx147_6)).trans hx147_6
                                    have HR147_1 := Aside0.mk hi147_1
                                    have HC147_1 := Aside0.mk hl147_1
                                    clear hi147_1 hl147_1
                                    have HR147_2 := Aside0.mk hi147_2
                                    have HC147_2 := Aside0.mk hl147_2
                                    clear hi147_2 hl147_2
                                    have HR147_3 := Aside0.mk hi147_3
                                    have HC147_3 := Aside0.mk hl147_3
                                    clear hi147_3 hl147_3
                                    have HR147_4 := Aside0.mk hi147_4
                                    have HC147_4 := Aside0.mk hl147_4
                                    clear hi147_4 hl147_4
                                    have HR147_5 := Aside0.mk hi147_5
                                    have HC147_5 := Aside0.mk hl147_5
                                    clear hi147_5 hl147_5
                                    have HR147_6 := Aside0.mk hi147_6
                                    have HC147_6 := Aside0.mk hl147_6
                                    clear hi147_6 hl147_6
                                    replace p147 := eq_true p147
                                    replace q147 := eq_true q147
                                    have p148 : 0 ≤ (x3_1 : Int) := of_decide_eq_true (by first | (with_reducible assumption) | assumption)
                                    have q148 : x3_1 < (l0.length : Int) := of_decide_eq_true (by first | (with_reducible assumption) | assumption)
                                    obtain ⟨ad148, A148_1, c148_1, A148_2, c148_2, A148_3, c148_3, A148_4, c148_4, A148_5, c148_5, A148_6, c148_6, e148, hx148_0, hx148_1, hx148_2, hx148_3, hx148_4, hx148_5, hx148_6, hl148_1, hi148_1, hl148_2, hi148_2, hl148_3, hi148_3, hl148_4, hi148_4, hl148_5, hi148_5, hl148_6, hi148_6⟩ := at_T39 HR0.out x3_1 p148 q148
                                    obtain rfl : ad146 = ad148 := (by injection e148)
                                    replace hx148_0 := (HB.out.cell (World.block_lt_of_cell? w _ hx148_0)).trans hx148_0
                                    replace hx148_1 := (HB.out.cell (World.block_lt_of_cell? w _ hx148_1)).trans hx148_1
                                    replace hx148_2 := (HB.out.cell (World.block_lt_of_cell? w _ hx148_2)).trans hx148_2
                                    replace hx148_3 := (HB.out.cell (World.block_lt_of_cell? w _ hx148_3)).trans hx148_3
                                    replace hx148_4 := (HB.out.cell (World.block_lt_of_cell? w _ hx148_4)).trans hx148_4
                                    replace hx148_5 := (HB.out.cell (World.block_lt_of_cell? w _ hx148_5)).trans hx148_5
                                    replace hx148_6 := (HB.out.cell (World.block_lt_of_cell? w _ hx148_6)).trans hx148_6
                                    have HR148_1 := Aside0.mk hi148_1
                                    have HC148_1 := Aside0.mk hl148_1
                                    clear hi148_1 hl148_1
                                    have HR148_2 := Aside0.mk hi148_2
                                    have HC148_2 := Aside0.mk hl148_2
                                    clear hi148_2 hl148_2
                                    have HR148_3 := Aside0.mk hi148_3
                                    have HC148_3 := Aside0.mk hl148_3
                                    clear hi148_3 hl148_3
                                    have HR148_4 := Aside0.mk hi148_4
                                    have HC148_4 := Aside0.mk hl148_4
                                    clear hi148_4 hl148_4
                                    have HR148_5 := Aside0.mk hi148_5
                                    have HC148_5 := Aside0.mk hl148_5
                                    clear hi148_5 hl148_5
                                    have HR148_6 := Aside0.mk hi148_6
                                    have HC148_6 := Aside0.mk hl148_6
                                    clear hi148_6 hl148_6
                                    replace p148 := eq_true p148
                                    replace q148 := eq_true q148
                                    have ea_ := Option.some.inj (hx147_1.symm.trans hx148_1)
                                    injection ea_ with ea_ en_ ec_
                                    subst ea_
                                    subst ec_
                                    clear en_
                                    have ea_ := Option.some.inj (hx147_2.symm.trans hx148_2)
                                    injection ea_ with ea_ en_ ec_
                                    subst ea_
                                    subst ec_
                                    clear en_
                                    have ea_ := Option.some.inj (hx147_3.symm.trans hx148_3)
                                    injection ea_ with ea_ en_ ec_
                                    subst ea_
                                    subst ec_
                                    clear en_
                                    have ea_ := Option.some.inj (hx147_4.symm.trans hx148_4)
                                    injection ea_ with ea_ en_ ec_
                                    subst ea_
                                    subst ec_
                                    clear en_
                                    have ea_ := Option.some.inj (hx147_5.symm.trans hx148_5)
                                    injection ea_ with ea_ en_ ec_
                                    subst ea_
                                    subst ec_
                                    clear en_
                                    have ea_ := Option.some.inj (hx147_6.symm.trans hx148_6)
                                    injection ea_ with ea_ en_ ec_
                                    subst ea_
                                    subst ec_
                                    clear en_
                                    have p149 : 0 ≤ (x4_2 : Int) := of_decide_eq_true (by first | (with_reducible assumption) | assumption)
                                    have q149 : x4_2 < (((rd_T39 l0 x3_1).f3).length : Int) := of_decide_eq_true (by first | (with_reducible assumption) | assumption)
                                    obtain ⟨ad149, e149, hx149_0, hx149_1, hx149_2, hx149_3, hx149_4, hx149_5, hx149_6, hx149_7⟩ := at_T42 HR148_3.out x4_2 p149 q149
                                    cases e149
                                    replace hx149_0 := (HB.out.cell (World.block_lt_of_cell? w _ hx149_0)).trans hx149_0
                                    replace hx149_1 := (HB.out.cell (World.block_lt_of_cell? w _ hx149_1)).trans hx149_1
                                    replace hx149_2 := (HB.out.cell (World.block_lt_of_cell? w _ hx149_2)).trans hx149_2
                                    replace hx149_3 := (HB.out.cell (World.block_lt_of_cell? w _ hx149_3)).trans hx149_3
                                    replace hx149_4 := (HB.out.cell (World.block_lt_of_cell? w _ hx149_4)).trans hx149_4
                                    replace hx149_5 := (HB.out.cell (World.block_lt_of_cell? w _ hx149_5)).trans hx149_5
                                    replace hx149_6 := (HB.out.cell (World.block_lt_of_cell? w _ hx149_6)).trans hx149_6
                                    replace hx149_7 := (HB.out.cell (World.block_lt_of_cell? w _ hx149_7)).trans hx149_7
                                    replace p149 := eq_true p149
                                    replace q149 := eq_true q149
                                    go_wp2_with (first | ((with_reducible refine gate_dst (N := 5) rfl ?_); (try (refine gate_guard (by rfl) ?_; dsimp only)); refine box_event ?hg (N := 5) ?hd (cs := #[.string (⟨#[]⟩ : ByteArray), .string (⟨#[]⟩ : ByteArray), .int .u64 0, .int .u64 0, .int .i64 0, .int .i64 0, .int .i64 0, .bool false]) (t := 42) ?hr ?_; (case hd => rfl); (case hg => rfl); (case hr => first | (go_simp; done) | (go_simp; rfl)); intro gb150 hg w35 hbox hb; have n0_ := Aside0.mk (below_step (by repeat (first | (with_reducible first | exact HB.out | apply below_alloc | apply pw_below_drewN | apply below_drew1) | exact HB.out)) hb); have n1_ := Aside0.mk (hbox); have n2_ := Aside0.mk ((by rw [hg]; exact (below_size (by repeat (first | (with_reducible first | exact HB.out | apply below_alloc | apply pw_below_drewN | apply below_drew1) | exact HB.out))) : w.heap.size ≤ gb150)); have n3_ := n2_; clear HB; have HB := n0_; have BK150 := n1_; have GW150 := n2_; have GE150 := n3_; clear n0_ n1_ n2_ n3_; clear hb hbox hg; obtain ⟨hcz36_0, hcz36_1, hcz36_2, hcz36_3, hcz36_4, hcz36_5, hcz36_6, hcz36_7, hfz36_0, hfz36_1, hfz36_2, hfz36_3, hfz36_4, hfz36_5, hfz36_6, hfz36_7⟩ := cells8 BK150.out) | ((with_reducible refine gate_store (t := 42) (p := 5) rfl ?_); refine store_event (t := 42) (p := 5) (v := ?vo_w37) (w1 := ((((((((w35.setCell ⟨gb150, 0, none⟩ (.string ((rd_T42 ((rd_T39 l0 x3_1).f3) x4_2).f0))).setCell ⟨gb150, 1, none⟩ (.string ((rd_T42 ((rd_T39 l0 x3_1).f3) x4_2).f1))).setCell ⟨gb150, 2, none⟩ (.int .u64 ((rd_T42 ((rd_T39 l0 x3_1).f3) x4_2).f2))).setCell ⟨gb150, 3, none⟩ (.int .u64 ((rd_T42 ((rd_T39 l0 x3_1).f3) x4_2).f3))).setCell ⟨gb150, 4, none⟩ (.int .i64 ((rd_T42 ((rd_T39 l0 x3_1).f3) x4_2).f4))).setCell ⟨gb150, 5, none⟩ (.int .i64 ((rd_T42 ((rd_T39 l0 x3_1).f3) x4_2).f5))).setCell ⟨gb150, 6, none⟩ (.int .i64 ((rd_T42 ((rd_T39 l0 x3_1).f3) x4_2).f6))).setCell ⟨gb150, 7, none⟩ (.bool ((rd_T42 ((rd_T39 l0 x3_1).f3) x4_2).f7)))) ?hg ?ho ?hn ?hr ?_; (case ho => rfl); (case hg => rfl); (case hn => rfl); (case hr => first | (go_simp; done) | (go_simp; rfl)); intro w37 hw; have n0_ : Aside0 (w37.heap[gb150]? = some (.cells #[.string ((rd_T42 ((rd_T39 l0 x3_1).f3) x4_2).f0), .string ((rd_T42 ((rd_T39 l0 x3_1).f3) x4_2).f1), .int .u64 ((rd_T42 ((rd_T39 l0 x3_1).f3) x4_2).f2), .int .u64 ((rd_T42 ((rd_T39 l0 x3_1).f3) x4_2).f3), .int .i64 ((rd_T42 ((rd_T39 l0 x3_1).f3) x4_2).f4), .int .i64 ((rd_T42 ((rd_T39 l0 x3_1).f3) x4_2).f5), .int .i64 ((rd_T42 ((rd_T39 l0 x3_1).f3) x4_2).f6), .bool ((rd_T42 ((rd_T39 l0 x3_1).f3) x4_2).f7)] 42 (0, 0))) := ⟨(by rw [hw]; exact (by (with_reducible repeat (first | refine blk_drewN ?_ _ | refine blk_drew ?_ | refine blk_alloc ?_ _)); refine blk_put (cs := #[.string ((rd_T42 ((rd_T39 l0 x3_1).f3) x4_2).f0), .string ((rd_T42 ((rd_T39 l0 x3_1).f3) x4_2).f1), .int .u64 ((rd_T42 ((rd_T39 l0 x3_1).f3) x4_2).f2), .int .u64 ((rd_T42 ((rd_T39 l0 x3_1).f3) x4_2).f3), .int .i64 ((rd_T42 ((rd_T39 l0 x3_1).f3) x4_2).f4), .int .i64 ((rd_T42 ((rd_T39 l0 x3_1).f3) x4_2).f5), .int .i64 ((rd_T42 ((rd_T39 l0 x3_1).f3) x4_2).f6), .bool false]) ?_ 7 _ rfl; (with_reducible repeat (first | refine blk_drewN ?_ _ | refine blk_drew ?_ | refine blk_alloc ?_ _)); refine blk_put (cs := #[.string ((rd_T42 ((rd_T39 l0 x3_1).f3) x4_2).f0), .string ((rd_T42 ((rd_T39 l0 x3_1).f3) x4_2).f1), .int .u64 ((rd_T42 ((rd_T39 l0 x3_1).f3) x4_2).f2), .int .u64 ((rd_T42 ((rd_T39 l0 x3_1).f3) x4_2).f3), .int .i64 ((rd_T42 ((rd_T39 l0 x3_1).f3) x4_2).f4), .int .i64 ((rd_T42 ((rd_T39 l0 x3_1).f3) x4_2).f5), .int .i64 0, .bool false]) ?_ 6 _ rfl; (with_reducible repeat (first | refine blk_drewN ?_ _ | refine blk_drew ?_ | refine blk_alloc ?_ _)); refine blk_put (cs := #[.string ((rd_T42 ((rd_T39 l0 x3_1).f3) x4_2).f0), .string ((rd_T42 ((rd_T39 l0 x3_1).f3) x4_2).f1), .int .u64 ((rd_T42 ((rd_T39 l0 x3_1).f3) x4_2).f2), .int .u64 ((rd_T42 ((rd_T39 l0 x3_1).f3) x4_2).f3), .int .i64 ((rd_T42 ((rd_T39 l0 x3_1).f3) x4_2).f4), .int .i64 0, .int .i64 0, .bool false]) ?_ 5 _ rfl; (with_reducible repeat (first | refine blk_drewN ?_ _ | refine blk_drew ?_ | refine blk_alloc ?_ _)); refine blk_put (cs := #[.string ((rd_T42 ((rd_T39 l0 x3_1).f3) x4_2).f0), .string ((rd_T42 ((rd_T39 l0 x3_1).f3) x4_2).f1), .int .u64 ((rd_T42 ((rd_T39 l0 x3_1).f3) x4_2).f2), .int .u64 ((rd_T42 ((rd_T39 l0 x3_1).f3) x4_2).f3), .int .i64 0, .int .i64 0, .int .i64 0, .bool false]) ?_ 4 _ rfl; (with_reducible repeat (first | refine blk_drewN ?_ _ | refine blk_drew ?_ | refine blk_alloc ?_ _)); refine blk_put (cs := #[.string ((rd_T42 ((rd_T39 l0 x3_1).f3) x4_2).f0), .string ((rd_T42 ((rd_T39 l0 x3_1).f3) x4_2).f1), .int .u64 ((rd_T42 ((rd_T39 l0 x3_1).f3) x4_2).f2), .int .u64 0, .int .i64 0, .int .i64 0, .int .i64 0, .bool false]) ?_ 3 _ rfl; (with_reducible repeat (first | refine blk_drewN ?_ _ | refine blk_drew ?_ | refine blk_alloc ?_ _)); refine blk_put (cs := #[.string ((rd_T42 ((rd_T39 l0 x3_1).f3) x4_2).f0), .string ((rd_T42 ((rd_T39 l0 x3_1).f3) x4_2).f1), .int .u64 0, .int .u64 0, .int .i64 0, .int .i64 0, .int .i64 0, .bool false]) ?_ 2 _ rfl; (with_reducible repeat (first | refine blk_drewN ?_ _ | refine blk_drew ?_ | refine blk_alloc ?_ _)); refine blk_put (cs := #[.string ((rd_T42 ((rd_T39 l0 x3_1).f3) x4_2).f0), .string (⟨#[]⟩ : ByteArray), .int .u64 0, .int .u64 0, .int .i64 0, .int .i64 0, .int .i64 0, .bool false]) ?_ 1 _ rfl; (with_reducible repeat (first | refine blk_drewN ?_ _ | refine blk_drew ?_ | refine blk_alloc ?_ _)); refine blk_put (cs := #[.string (⟨#[]⟩ : ByteArray), .string (⟨#[]⟩ : ByteArray), .int .u64 0, .int .u64 0, .int .i64 0, .int .i64 0, .int .i64 0, .bool false]) ?_ 0 _ rfl; (with_reducible repeat (first | refine blk_drewN ?_ _ | refine blk_drew ?_ | refine blk_alloc ?_ _)); exact BK150.out))⟩; have n1_ : Aside0 (Below w.heap.size w w37) := ⟨(by rw [hw]; exact (by repeat (first | (with_reducible first | exact HB.out | apply below_alloc | apply pw_below_drewN | apply below_drew1 | refine below_set ?_ GE150.out) | exact HB.out)))⟩; clear hw; clear BK150; clear HB; have BK150 := n0_; have HB := n1_; clear n0_ n1_; obtain ⟨hcz38_0, hcz38_1, hcz38_2, hcz38_3, hcz38_4, hcz38_5, hcz38_6, hcz38_7, hfz38_0, hfz38_1, hfz38_2, hfz38_3, hfz38_4, hfz38_5, hfz38_6, hfz38_7⟩ := cells8 BK150.out))
                                    go_roundg k2
                                    case measure => have := HK1.out; have := HK2.out; omega
                                    case rel => exact ⟨(wrap64 (x4_2 + 1)), (by first | rfl | (simp; done) | (simp [*]; done)), H', ⟨by have := HK1.out; have := HK2.out; omega⟩, ⟨by repeat (first | (with_reducible first | exact HB.out | apply below_alloc | apply pw_below_drewN | apply below_drew1 | refine below_set ?_ GE150.out) | exact HB.out)⟩⟩
                        · rw [if_neg c9] at H
                          exact absurd H (by simp)
                      · rw [if_neg c8] at H
                        have c8b0 : decide (x4_2 < (((rd_T39 l0 x3_1).f3).length : Int)) = false := decide_eq_false c8
                        clear c8
                        have H' := Aside0.mk H
                        clear H
                        have p147 : 0 ≤ (x3_1 : Int) := of_decide_eq_true (by first | (with_reducible assumption) | assumption)
                        have q147 : x3_1 < (l0.length : Int) := of_decide_eq_true (by first | (with_reducible assumption) | assumption)
                        obtain ⟨ad147, A147_1, c147_1, A147_2, c147_2, A147_3, c147_3, A147_4, c147_4, A147_5, c147_5, A147_6, c147_6, e147, hx147_0, hx147_1, hx147_2, hx147_3, hx147_4, hx147_5, hx147_6, hl147_1, hi147_1, hl147_2, hi147_2, hl147_3, hi147_3, hl147_4, hi147_4, hl147_5, hi147_5, hl147_6, hi147_6⟩ := at_T39 HR0.out x3_1 p147 q147
                        obtain rfl : ad146 = ad147 := (by injection e147)
                        replace hx147_0 := (HB.out.cell (World.block_lt_of_cell? w _ hx147_0)).trans hx147_0
                        replace hx147_1 := (HB.out.cell (World.block_lt_of_cell? w _ hx147_1)).trans hx147_1
                        replace hx147_2 := (HB.out.cell (World.block_lt_of_cell? w _ hx147_2)).trans hx147_2
                        replace hx147_3 := (HB.out.cell (World.block_lt_of_cell? w _ hx147_3)).trans hx147_3
                        replace hx147_4 := (HB.out.cell (World.block_lt_of_cell? w _ hx147_4)).trans hx147_4
                        replace hx147_5 := (HB.out.cell (World.block_lt_of_cell? w _ hx147_5)).trans hx147_5
                        replace hx147_6 := (HB.out.cell (World.block_lt_of_cell? w _ hx147_6)).trans hx147_6
                        have HR147_1 := Aside0.mk hi147_1
                        have HC147_1 := Aside0.mk hl147_1
                        clear hi147_1 hl147_1
                        have HR147_2 := Aside0.mk hi147_2
                        have HC147_2 := Aside0.mk hl147_2
                        clear hi147_2 hl147_2
                        have HR147_3 := Aside0.mk hi147_3
                        have HC147_3 := Aside0.mk hl147_3
                        clear hi147_3 hl147_3
                        have HR147_4 := Aside0.mk hi147_4
                        have HC147_4 := Aside0.mk hl147_4
                        clear hi147_4 hl147_4
                        have HR147_5 := Aside0.mk hi147_5
                        have HC147_5 := Aside0.mk hl147_5
                        clear hi147_5 hl147_5
                        have HR147_6 := Aside0.mk hi147_6
                        have HC147_6 := Aside0.mk hl147_6
                        clear hi147_6 hl147_6
                        replace p147 := eq_true p147
                        replace q147 := eq_true q147
                        go_wp2
                        go_roundg k2
                        case measure => have := HK1.out; have := HK2.out; omega
                        case rel => exact ⟨(wrap64 (x3_1 + 1)), (by first | rfl | (simp; done) | (simp [*]; done)), H', ⟨by have := HK1.out; have := HK2.out; omega⟩, ⟨by repeat (first | (with_reducible first | exact HB.out | apply below_alloc | apply pw_below_drewN | apply below_drew1) | exact HB.out)⟩⟩
                    · rw [if_neg c7] at H
                      exact absurd H (by simp)
                  · rw [if_neg c6] at H
                    exact absurd H (by simp)
          · rw [if_neg c4] at H
            exact absurd H (by simp)
        · rw [if_neg c3] at H
          have c3b0 : decide (x3_1 < (l0.length : Int)) = false := decide_eq_false c3
          clear c3
          obtain rfl := Option.some.inj H
          go_wp2
          go_ret
          exact ⟨by first | rfl | (simp [errW_none, errW_some] <;> rfl) | (simp [*, errW_none, errW_some] <;> rfl), by repeat (first | (with_reducible first | exact HB.out | apply below_alloc | apply pw_below_drewN | apply below_drew1) | exact HB.out)⟩

end Go.Proofs.Ytoakeildgpeffaa.P
