/- What functions of the program, and of its laws, give, each proved of its code by a walk; no condition. -/
import Derived.Test.YtdgmkmjmddjcfaaKLookupTwicePx0
namespace Go.Proofs.Ytdgmkmjmddjcfaa.P
open Go.RowKit Go.Proofs.YtdgmkmjmddjcfaaW.PrintWords Go.Proofs.YtdgmkmjmddjcfaaW.PrintLast Go.Proofs.YtdgmkmjmddjcfaaW.PrintMore
attribute [local go_sem] max2_int min2_int max_two min_two max_three min_three max_four min_four   -- for this text's walks alone
set_option linter.unusedVariables false
set_option linter.unusedSimpArgs false

mutual
def curtilageref14_Short.l0 : Nat → List (S32) → Int → Option (Bool)
  | 0, _, _ => none
  | k + 1, x0, x3 => if x3 < (x0.length : Int) then (if 0 ≤ x3 then (if (((rd_T32 x0 x3).f3).length : Int) > 40 then (some false) else (curtilageref14_Short.l1 k x0 x3 0)) else (none)) else (some true)
def curtilageref14_Short.l1 : Nat → List (S32) → Int → Int → Option (Bool)
  | 0, _, _, _ => none
  | k + 1, x0, x3, x4 => if 0 ≤ x3 then (if x3 < (x0.length : Int) then (if x4 < (((rd_T32 x0 x3).f3).length : Int) then (if 0 ≤ x4 then (if ((rd_T42 ((rd_T32 x0 x3).f3) x4).f5) < 1 then (some false) else (if ((rd_T42 ((rd_T32 x0 x3).f3) x4).f5) > 3 then (some false) else (if ((rd_T42 ((rd_T32 x0 x3).f3) x4).f6) < 1 then (some false) else (if ((rd_T42 ((rd_T32 x0 x3).f3) x4).f6) > 2 then (some false) else (if (((rd_T42 ((rd_T32 x0 x3).f3) x4).f0).size : Int) > 100 then (some false) else (curtilageref14_Short.l1 k x0 x3 (wrap64 (x4 + 1)))))))) else (none)) else (curtilageref14_Short.l0 k x0 (wrap64 (x3 + 1)))) else (none)) else (none)
end
def curtilageref14_Short.f (k : Nat) (l0 : List (S32)) : Option (Bool) := if (l0.length : Int) > 10 then (some false) else (curtilageref14_Short.l0 k l0 0)
theorem curtilageref14_Short.mono_l : ∀ k, (∀ y0 y1, LeO (curtilageref14_Short.l0 k y0 y1) (curtilageref14_Short.l0 (k + 1) y0 y1)) ∧ (∀ y0 y1 y2, LeO (curtilageref14_Short.l1 k y0 y1 y2) (curtilageref14_Short.l1 (k + 1) y0 y1 y2))
  | 0 => ⟨fun _ _ r h => by simp [curtilageref14_Short.l0] at h, fun _ _ _ r h => by simp [curtilageref14_Short.l1] at h⟩
  | k + 1 => by
    obtain ⟨ih0, ih1⟩ := curtilageref14_Short.mono_l k
    refine ⟨?_, ?_⟩
    · intro y0 y1
      unfold curtilageref14_Short.l0
      repeat' first
      | (with_reducible exact ih0 _ _)
      | (with_reducible exact ih1 _ _ _)
      | (with_reducible exact LeO.refl _)
      | (with_reducible exact LeO.none _)
      | (with_reducible refine LeO.ite ?_ ?_)
      | (with_reducible refine LeO.bind ?_ (fun _ => ?_))
      | exact ih0 _ _
      | exact ih1 _ _ _
      | exact LeO.none _
      | refine LeO.ite ?_ ?_
      | refine LeO.bind ?_ (fun _ => ?_)
    · intro y0 y1 y2
      unfold curtilageref14_Short.l1
      repeat' first
      | (with_reducible exact ih0 _ _)
      | (with_reducible exact ih1 _ _ _)
      | (with_reducible exact LeO.refl _)
      | (with_reducible exact LeO.none _)
      | (with_reducible refine LeO.ite ?_ ?_)
      | (with_reducible refine LeO.bind ?_ (fun _ => ?_))
      | exact ih0 _ _
      | exact ih1 _ _ _
      | exact LeO.none _
      | refine LeO.ite ?_ ?_
      | refine LeO.bind ?_ (fun _ => ?_)
theorem curtilageref14_Short.mono : ∀ a0 k, LeO (curtilageref14_Short.f k a0) (curtilageref14_Short.f (k + 1) a0) := by
  intro a0 k
  obtain ⟨ih0, ih1⟩ := curtilageref14_Short.mono_l k
  unfold curtilageref14_Short.f
  repeat' first
      | (with_reducible exact ih0 _ _)
      | (with_reducible exact ih1 _ _ _)
      | (with_reducible exact LeO.refl _)
      | (with_reducible exact LeO.none _)
      | (with_reducible refine LeO.ite ?_ ?_)
      | (with_reducible refine LeO.bind ?_ (fun _ => ?_))
      | exact ih0 _ _
      | exact ih1 _ _ _
      | exact LeO.none _
      | refine LeO.ite ?_ ?_
      | refine LeO.bind ?_ (fun _ => ?_)
set_option maxHeartbeats 8000000 in
set_option maxRecDepth 100000 in
theorem curtilageref14_Short.calls (k : Nat) (A0 : Option Addr) (c0 : Nat) (l0 : List (S32)) (r : Bool) (w : World) (hr0 : Kd.C k32 w A0 l0.length l0) (hc0 : l0.length ≤ c0) (h : curtilageref14_Short.f k l0 = some r) :
    Calls Try.prog 9 #[.slice A0 l0.length c0] w fun e w' => e = .returned (.bool r) ∧ Below w.heap.size w w' := by
  have hu42 := Try.underlying42
  have HR0 := Aside0.mk hr0
  have HC0 := Aside0.mk hc0
  clear hr0 hc0
  have HB := Aside0.mk (Below.refl w.heap.size w)
  have H : (if (l0.length : Int) > 10 then (some false) else (curtilageref14_Short.l0 k l0 0)) = some r := h
  clear h
  by_cases c2 : (l0.length : Int) > 10
  · rw [if_pos c2] at H
    have c2b0 : decide (10 < (l0.length : Int)) = true := decide_eq_true c2
    have c2b1 : decide (10 < l0.length) = true := decide_eq_true (by omega)
    clear c2
    obtain rfl := Option.some.inj H
    go_enter Try.func9, Try.ntmps9
    go_wp2
    go_ret
    exact ⟨by first | rfl | (simp [errW_none, errW_some] <;> rfl) | (simp [*, errW_none, errW_some] <;> rfl), by repeat (first | (with_reducible first | exact HB.out | apply below_alloc | apply pw_below_drewN | apply below_drew1) | exact HB.out)⟩
  · rw [if_neg c2] at H
    have c2b0 : decide (10 < (l0.length : Int)) = false := decide_eq_false c2
    have c2b1 : decide (10 < l0.length) = false := decide_eq_false (by omega)
    clear c2
    have H' := Aside0.mk H
    clear H
    go_enter Try.func9, Try.ntmps9
    go_wp2
    go_loopg [3] k (fun kq v3 w' => ∃ (x3_1 : Int), v3 = .int .i64 x3_1 ∧ Aside0 (curtilageref14_Short.l0 kq l0 x3_1 = some r) ∧ Aside0 (kq ≤ k) ∧ Aside0 (Below w.heap.size w w'))
    case atStart => exact ⟨(0), (by first | rfl | (simp; done) | (simp [*]; done)), H', ⟨Nat.le_refl _⟩, ⟨by repeat (first | (with_reducible first | exact HB.out | apply below_alloc | apply pw_below_drewN | apply below_drew1) | exact HB.out)⟩⟩
    case round =>
      clear H'
      try clear c2
      try clear c2b0
      try clear c2b1
      try clear p2
      obtain ⟨x3_1, rfl, HA, HK1, HB⟩ := hrel
      cases gk with
      | zero => exact absurd HA.out (by simp [curtilageref14_Short.l0])
      | succ k1 =>
        have H := HA.out
        clear HA
        simp only [curtilageref14_Short.l0] at H
        by_cases c3 : x3_1 < (l0.length : Int)
        · rw [if_pos c3] at H
          have c3b0 : decide (x3_1 < (l0.length : Int)) = true := decide_eq_true c3
          clear c3
          by_cases c4 : 0 ≤ x3_1
          · rw [if_pos c4] at H
            have c4b0 : decide (0 ≤ x3_1) = true := decide_eq_true c4
            clear c4
            by_cases c5 : (((rd_T32 l0 x3_1).f3).length : Int) > 40
            · rw [if_pos c5] at H
              have c5b0 : decide (40 < (((rd_T32 l0 x3_1).f3).length : Int)) = true := decide_eq_true c5
              have c5b1 : decide (40 < ((rd_T32 l0 x3_1).f3).length) = true := decide_eq_true (by omega)
              clear c5
              obtain rfl := Option.some.inj H
              have p251 : 0 ≤ (x3_1 : Int) := of_decide_eq_true (by first | (with_reducible assumption) | assumption)
              have q251 : x3_1 < (l0.length : Int) := of_decide_eq_true (by first | (with_reducible assumption) | assumption)
              obtain ⟨ad251, A251_1, c251_1, A251_2, c251_2, A251_3, c251_3, A251_4, c251_4, A251_5, c251_5, A251_6, c251_6, e251, hx251_0, hx251_1, hx251_2, hx251_3, hx251_4, hx251_5, hx251_6, hl251_1, hi251_1, hl251_2, hi251_2, hl251_3, hi251_3, hl251_4, hi251_4, hl251_5, hi251_5, hl251_6, hi251_6⟩ := at_T32 HR0.out x3_1 p251 q251
              cases e251
              replace hx251_0 := (HB.out.cell (World.block_lt_of_cell? w _ hx251_0)).trans hx251_0
              replace hx251_1 := (HB.out.cell (World.block_lt_of_cell? w _ hx251_1)).trans hx251_1
              replace hx251_2 := (HB.out.cell (World.block_lt_of_cell? w _ hx251_2)).trans hx251_2
              replace hx251_3 := (HB.out.cell (World.block_lt_of_cell? w _ hx251_3)).trans hx251_3
              replace hx251_4 := (HB.out.cell (World.block_lt_of_cell? w _ hx251_4)).trans hx251_4
              replace hx251_5 := (HB.out.cell (World.block_lt_of_cell? w _ hx251_5)).trans hx251_5
              replace hx251_6 := (HB.out.cell (World.block_lt_of_cell? w _ hx251_6)).trans hx251_6
              have HR251_1 := Aside0.mk hi251_1
              have HC251_1 := Aside0.mk hl251_1
              clear hi251_1 hl251_1
              have HR251_2 := Aside0.mk hi251_2
              have HC251_2 := Aside0.mk hl251_2
              clear hi251_2 hl251_2
              have HR251_3 := Aside0.mk hi251_3
              have HC251_3 := Aside0.mk hl251_3
              clear hi251_3 hl251_3
              have HR251_4 := Aside0.mk hi251_4
              have HC251_4 := Aside0.mk hl251_4
              clear hi251_4 hl251_4
              have HR251_5 := Aside0.mk hi251_5
              have HC251_5 := Aside0.mk hl251_5
              clear hi251_5 hl251_5
              have HR251_6 := Aside0.mk hi251_6
              have HC251_6 := Aside0.mk hl251_6
              clear hi251_6 hl251_6
              replace p251 := eq_true p251
              replace q251 := eq_true q251
              go_wp2
              go_ret
              exact ⟨by first | rfl | (simp [errW_none, errW_some] <;> rfl) | (simp [*, errW_none, errW_some] <;> rfl), by repeat (first | (with_reducible first | exact HB.out | apply below_alloc | apply pw_below_drewN | apply below_drew1) | exact HB.out)⟩
            · rw [if_neg c5] at H
              have c5b0 : decide (40 < (((rd_T32 l0 x3_1).f3).length : Int)) = false := decide_eq_false c5
              have c5b1 : decide (40 < ((rd_T32 l0 x3_1).f3).length) = false := decide_eq_false (by omega)
              clear c5
              have H' := Aside0.mk H
              clear H
              have p251 : 0 ≤ (x3_1 : Int) := of_decide_eq_true (by first | (with_reducible assumption) | assumption)
              have q251 : x3_1 < (l0.length : Int) := of_decide_eq_true (by first | (with_reducible assumption) | assumption)
              obtain ⟨ad251, A251_1, c251_1, A251_2, c251_2, A251_3, c251_3, A251_4, c251_4, A251_5, c251_5, A251_6, c251_6, e251, hx251_0, hx251_1, hx251_2, hx251_3, hx251_4, hx251_5, hx251_6, hl251_1, hi251_1, hl251_2, hi251_2, hl251_3, hi251_3, hl251_4, hi251_4, hl251_5, hi251_5, hl251_6, hi251_6⟩ := at_T32 HR0.out x3_1 p251 q251
              cases e251
              replace hx251_0 := (HB.out.cell (World.block_lt_of_cell? w _ hx251_0)).trans hx251_0
              replace hx251_1 := (HB.out.cell (World.block_lt_of_cell? w _ hx251_1)).trans hx251_1
              replace hx251_2 := (HB.out.cell (World.block_lt_of_cell? w _ hx251_2)).trans hx251_2
              replace hx251_3 := (HB.out.cell (World.block_lt_of_cell? w _ hx251_3)).trans hx251_3
              replace hx251_4 := (HB.out.cell (World.block_lt_of_cell? w _ hx251_4)).trans hx251_4
              replace hx251_5 := (HB.out.cell (World.block_lt_of_cell? w _ hx251_5)).trans hx251_5
              replace hx251_6 := (HB.out.cell (World.block_lt_of_cell? w _ hx251_6)).trans hx251_6
              have HR251_1 := Aside0.mk hi251_1
              have HC251_1 := Aside0.mk hl251_1
              clear hi251_1 hl251_1
              have HR251_2 := Aside0.mk hi251_2
              have HC251_2 := Aside0.mk hl251_2
              clear hi251_2 hl251_2
              have HR251_3 := Aside0.mk hi251_3
              have HC251_3 := Aside0.mk hl251_3
              clear hi251_3 hl251_3
              have HR251_4 := Aside0.mk hi251_4
              have HC251_4 := Aside0.mk hl251_4
              clear hi251_4 hl251_4
              have HR251_5 := Aside0.mk hi251_5
              have HC251_5 := Aside0.mk hl251_5
              clear hi251_5 hl251_5
              have HR251_6 := Aside0.mk hi251_6
              have HC251_6 := Aside0.mk hl251_6
              clear hi251_6 hl251_6
              replace p251 := eq_true p251
              replace q251 := eq_true q251
              go_wp2
              go_loopg [4] k1 (fun kq v4 w' => ∃ (x4_2 : Int), v4 = .int .i64 x4_2 ∧ Aside0 (curtilageref14_Short.l1 kq l0 x3_1 x4_2 = some r) ∧ Aside0 (kq ≤ k1) ∧ Aside0 (Below w.heap.size w w'))
              case atStart => exact ⟨(0), (by first | rfl | (simp; done) | (simp [*]; done)), H', ⟨Nat.le_refl _⟩, ⟨by repeat (first | (with_reducible first | exact HB.out | apply below_alloc | apply pw_below_drewN | apply below_drew1) | exact HB.out)⟩⟩
              case round =>
                clear H'
                try clear c2
                try clear c2b0
                try clear c2b1
                try clear p2
                try clear q2
                try clear hx2
                try clear c3
                try clear c3b0
                try clear c4
                try clear c4b0
                try clear c5
                try clear c5b0
                try clear c5b1
                try clear hx251_0
                try clear hx251_1
                try clear hx251_2
                try clear hx251_3
                try clear hx251_4
                try clear hx251_5
                try clear hx251_6
                try clear p2
                try clear p251
                try clear q251
                obtain ⟨x4_2, rfl, HA, HK2, HB⟩ := hrel
                cases gk with
                | zero => exact absurd HA.out (by simp [curtilageref14_Short.l1])
                | succ k2 =>
                  have H := HA.out
                  clear HA
                  simp only [curtilageref14_Short.l1] at H
                  by_cases c6 : 0 ≤ x3_1
                  · rw [if_pos c6] at H
                    have c6b0 : decide (0 ≤ x3_1) = true := decide_eq_true c6
                    clear c6
                    by_cases c7 : x3_1 < (l0.length : Int)
                    · rw [if_pos c7] at H
                      have c7b0 : decide (x3_1 < (l0.length : Int)) = true := decide_eq_true c7
                      clear c7
                      by_cases c8 : x4_2 < (((rd_T32 l0 x3_1).f3).length : Int)
                      · rw [if_pos c8] at H
                        have c8b0 : decide (x4_2 < (((rd_T32 l0 x3_1).f3).length : Int)) = true := decide_eq_true c8
                        clear c8
                        by_cases c9 : 0 ≤ x4_2
                        · rw [if_pos c9] at H
                          have c9b0 : decide (0 ≤ x4_2) = true := decide_eq_true c9
                          clear c9
                          by_cases c10 : ((rd_T42 ((rd_T32 l0 x3_1).f3) x4_2).f5) < 1
                          · rw [if_pos c10] at H
                            have c10b0 : decide (((rd_T42 ((rd_T32 l0 x3_1).f3) x4_2).f5) < 1) = true := decide_eq_true c10
                            clear c10
                            obtain rfl := Option.some.inj H
                            have p252 : 0 ≤ (x3_1 : Int) := of_decide_eq_true (by first | (with_reducible assumption) | assumption)
                            have q252 : x3_1 < (l0.length : Int) := of_decide_eq_true (by first | (with_reducible assumption) | assumption)
                            obtain ⟨ad252, A252_1, c252_1, A252_2, c252_2, A252_3, c252_3, A252_4, c252_4, A252_5, c252_5, A252_6, c252_6, e252, hx252_0, hx252_1, hx252_2, hx252_3, hx252_4, hx252_5, hx252_6, hl252_1, hi252_1, hl252_2, hi252_2, hl252_3, hi252_3, hl252_4, hi252_4, hl252_5, hi252_5, hl252_6, hi252_6⟩ := at_T32 HR0.out x3_1 p252 q252
                            obtain rfl : ad251 = ad252 := (by injection e252)
                            replace hx252_0 := (HB.out.cell (World.block_lt_of_cell? w _ hx252_0)).trans hx252_0
                            replace hx252_1 := (HB.out.cell (World.block_lt_of_cell? w _ hx252_1)).trans hx252_1
                            replace hx252_2 := (HB.out.cell (World.block_lt_of_cell? w _ hx252_2)).trans hx252_2
                            replace hx252_3 := (HB.out.cell (World.block_lt_of_cell? w _ hx252_3)).trans hx252_3
                            replace hx252_4 := (HB.out.cell (World.block_lt_of_cell? w _ hx252_4)).trans hx252_4
                            replace hx252_5 := (HB.out.cell (World.block_lt_of_cell? w _ hx252_5)).trans hx252_5
                            replace hx252_6 := (HB.out.cell (World.block_lt_of_cell? w _ hx252_6)).trans hx252_6
                            have HR252_1 := Aside0.mk hi252_1
                            have HC252_1 := Aside0.mk hl252_1
                            clear hi252_1 hl252_1
                            have HR252_2 := Aside0.mk hi252_2
                            have HC252_2 := Aside0.mk hl252_2
                            clear hi252_2 hl252_2
                            have HR252_3 := Aside0.mk hi252_3
                            have HC252_3 := Aside0.mk hl252_3
                            clear hi252_3 hl252_3
                            have HR252_4 := Aside0.mk hi252_4
                            have HC252_4 := Aside0.mk hl252_4
                            clear hi252_4 hl252_4
                            have HR252_5 := Aside0.mk hi252_5
                            have HC252_5 := Aside0.mk hl252_5
                            clear hi252_5 hl252_5
                            have HR252_6 := Aside0.mk hi252_6
                            have HC252_6 := Aside0.mk hl252_6
                            clear hi252_6 hl252_6
                            replace p252 := eq_true p252
                            replace q252 := eq_true q252
                            have p253 : 0 ≤ (x3_1 : Int) := of_decide_eq_true (by first | (with_reducible assumption) | assumption)
                            have q253 : x3_1 < (l0.length : Int) := of_decide_eq_true (by first | (with_reducible assumption) | assumption)
                            obtain ⟨ad253, A253_1, c253_1, A253_2, c253_2, A253_3, c253_3, A253_4, c253_4, A253_5, c253_5, A253_6, c253_6, e253, hx253_0, hx253_1, hx253_2, hx253_3, hx253_4, hx253_5, hx253_6, hl253_1, hi253_1, hl253_2, hi253_2, hl253_3, hi253_3, hl253_4, hi253_4, hl253_5, hi253_5, hl253_6, hi253_6⟩ := at_T32 HR0.out x3_1 p253 q253
                            obtain rfl : ad251 = ad253 := (by injection e253)
                            replace hx253_0 := (HB.out.cell (World.block_lt_of_cell? w _ hx253_0)).trans hx253_0
                            replace hx253_1 := (HB.out.cell (World.block_lt_of_cell? w _ hx253_1)).trans hx253_1
                            replace hx253_2 := (HB.out.cell (World.block_lt_of_cell? w _ hx253_2)).trans hx253_2
                            replace hx253_3 := (HB.out.cell (World.block_lt_of_cell? w _ hx253_3)).trans hx253_3
                            replace hx253_4 := (HB.out.cell (World.block_lt_of_cell? w _ hx253_4)).trans hx253_4
                            replace hx253_5 := (HB.out.cell (World.block_lt_of_cell? w _ hx253_5)).trans hx253_5
                            replace hx253_6 := (HB.out.cell (World.block_lt_of_cell? w _ hx253_6)).trans hx253_6
                            have HR253_1 := Aside0.mk hi253_1
                            have HC253_1 := Aside0.mk hl253_1
                            clear hi253_1 hl253_1
                            have HR253_2 := Aside0.mk hi253_2
                            have HC253_2 := Aside0.mk hl253_2
                            clear hi253_2 hl253_2
                            have HR253_3 := Aside0.mk hi253_3
                            have HC253_3 := Aside0.mk hl253_3
                            clear hi253_3 hl253_3
                            have HR253_4 := Aside0.mk hi253_4
                            have HC253_4 := Aside0.mk hl253_4
                            clear hi253_4 hl253_4
                            have HR253_5 := Aside0.mk hi253_5
                            have HC253_5 := Aside0.mk hl253_5
                            clear hi253_5 hl253_5
                            have HR253_6 := Aside0.mk hi253_6
                            have HC253_6 := Aside0.mk hl253_6
                            clear hi253_6 hl253_6
                            replace p253 := eq_true p253
                            replace q253 := eq_true q253
                            have ea_ := Option.some.inj (hx252_1.symm.trans hx253_1)
                            injection ea_ with ea_ en_ ec_
                            subst ea_
                            subst ec_
                            clear en_
                            have ea_ := Option.some.inj (hx252_2.symm.trans hx253_2)
                            injection ea_ with ea_ en_ ec_
                            subst ea_
                            subst ec_
                            clear en_
                            have ea_ := Option.some.inj (hx252_3.symm.trans hx253_3)
                            injection ea_ with ea_ en_ ec_
                            subst ea_
                            subst ec_
                            clear en_
                            have ea_ := Option.some.inj (hx252_4.symm.trans hx253_4)
                            injection ea_ with ea_ en_ ec_
                            subst ea_
                            subst ec_
                            clear en_
                            have ea_ := Option.some.inj (hx252_5.symm.trans hx253_5)
                            injection ea_ with ea_ en_ ec_
                            subst ea_
                            subst ec_
                            clear en_
                            have ea_ := Option.some.inj (hx252_6.symm.trans hx253_6)
                            injection ea_ with ea_ en_ ec_
                            subst ea_
                            subst ec_
                            clear en_
                            have p254 : 0 ≤ (x4_2 : Int) := of_decide_eq_true (by first | (with_reducible assumption) | assumption)
                            have q254 : x4_2 < (((rd_T32 l0 x3_1).f3).length : Int) := of_decide_eq_true (by first | (with_reducible assumption) | assumption)
                            obtain ⟨ad254, e254, hx254_0, hx254_1, hx254_2, hx254_3, hx254_4, hx254_5, hx254_6, hx254_7⟩ := at_T42 HR253_3.out x4_2 p254 q254
                            cases e254
                            replace hx254_0 := (HB.out.cell (World.block_lt_of_cell? w _ hx254_0)).trans hx254_0
                            replace hx254_1 := (HB.out.cell (World.block_lt_of_cell? w _ hx254_1)).trans hx254_1
                            replace hx254_2 := (HB.out.cell (World.block_lt_of_cell? w _ hx254_2)).trans hx254_2
                            replace hx254_3 := (HB.out.cell (World.block_lt_of_cell? w _ hx254_3)).trans hx254_3
                            replace hx254_4 := (HB.out.cell (World.block_lt_of_cell? w _ hx254_4)).trans hx254_4
                            replace hx254_5 := (HB.out.cell (World.block_lt_of_cell? w _ hx254_5)).trans hx254_5
                            replace hx254_6 := (HB.out.cell (World.block_lt_of_cell? w _ hx254_6)).trans hx254_6
                            replace hx254_7 := (HB.out.cell (World.block_lt_of_cell? w _ hx254_7)).trans hx254_7
                            replace p254 := eq_true p254
                            replace q254 := eq_true q254
                            go_wp2_with (first | ((with_reducible refine gate_dst (N := 5) rfl ?_); (try (refine gate_guard (by rfl) ?_; dsimp only)); refine box_event ?hg (N := 5) ?hd (cs := #[.string (⟨#[]⟩ : ByteArray), .string (⟨#[]⟩ : ByteArray), .int .u64 0, .int .u64 0, .int .i64 0, .int .i64 0, .int .i64 0, .bool false]) (t := 42) ?hr ?_; (case hd => rfl); (case hg => rfl); (case hr => first | (go_simp; done) | (go_simp; rfl)); intro gb255 hg w11 hbox hb; have n0_ := Aside0.mk (below_step (by repeat (first | (with_reducible first | exact HB.out | apply below_alloc | apply pw_below_drewN | apply below_drew1) | exact HB.out)) hb); have n1_ := Aside0.mk (hbox); have n2_ := Aside0.mk ((by rw [hg]; exact (below_size (by repeat (first | (with_reducible first | exact HB.out | apply below_alloc | apply pw_below_drewN | apply below_drew1) | exact HB.out))) : w.heap.size ≤ gb255)); have n3_ := n2_; clear HB; have HB := n0_; have BK255 := n1_; have GW255 := n2_; have GE255 := n3_; clear n0_ n1_ n2_ n3_; clear hb hbox hg; obtain ⟨hcz12_0, hcz12_1, hcz12_2, hcz12_3, hcz12_4, hcz12_5, hcz12_6, hcz12_7, hfz12_0, hfz12_1, hfz12_2, hfz12_3, hfz12_4, hfz12_5, hfz12_6, hfz12_7⟩ := cells8 BK255.out) | ((with_reducible refine gate_store (t := 42) (p := 5) rfl ?_); refine store_event (t := 42) (p := 5) (v := ?vo_w13) (w1 := ((((((((w11.setCell ⟨gb255, 0, none⟩ (.string ((rd_T42 ((rd_T32 l0 x3_1).f3) x4_2).f0))).setCell ⟨gb255, 1, none⟩ (.string ((rd_T42 ((rd_T32 l0 x3_1).f3) x4_2).f1))).setCell ⟨gb255, 2, none⟩ (.int .u64 ((rd_T42 ((rd_T32 l0 x3_1).f3) x4_2).f2))).setCell ⟨gb255, 3, none⟩ (.int .u64 ((rd_T42 ((rd_T32 l0 x3_1).f3) x4_2).f3))).setCell ⟨gb255, 4, none⟩ (.int .i64 ((rd_T42 ((rd_T32 l0 x3_1).f3) x4_2).f4))).setCell ⟨gb255, 5, none⟩ (.int .i64 ((rd_T42 ((rd_T32 l0 x3_1).f3) x4_2).f5))).setCell ⟨gb255, 6, none⟩ (.int .i64 ((rd_T42 ((rd_T32 l0 x3_1).f3) x4_2).f6))).setCell ⟨gb255, 7, none⟩ (.bool ((rd_T42 ((rd_T32 l0 x3_1).f3) x4_2).f7)))) ?hg ?ho ?hn ?hr ?_; (case ho => rfl); (case hg => rfl); (case hn => rfl); (case hr => first | (go_simp; done) | (go_simp; rfl)); intro w13 hw; have n0_ : Aside0 (w13.heap[gb255]? = some (.cells #[.string ((rd_T42 ((rd_T32 l0 x3_1).f3) x4_2).f0), .string ((rd_T42 ((rd_T32 l0 x3_1).f3) x4_2).f1), .int .u64 ((rd_T42 ((rd_T32 l0 x3_1).f3) x4_2).f2), .int .u64 ((rd_T42 ((rd_T32 l0 x3_1).f3) x4_2).f3), .int .i64 ((rd_T42 ((rd_T32 l0 x3_1).f3) x4_2).f4), .int .i64 ((rd_T42 ((rd_T32 l0 x3_1).f3) x4_2).f5), .int .i64 ((rd_T42 ((rd_T32 l0 x3_1).f3) x4_2).f6), .bool ((rd_T42 ((rd_T32 l0 x3_1).f3) x4_2).f7)] 42 (0, 0))) := ⟨(by rw [hw]; exact (by (with_reducible repeat (first | refine blk_drewN ?_ _ | refine blk_drew ?_ | refine blk_alloc ?_ _)); refine blk_put (cs := #[.string ((rd_T42 ((rd_T32 l0 x3_1).f3) x4_2).f0), .string ((rd_T42 ((rd_T32 l0 x3_1).f3) x4_2).f1), .int .u64 ((rd_T42 ((rd_T32 l0 x3_1).f3) x4_2).f2), .int .u64 ((rd_T42 ((rd_T32 l0 x3_1).f3) x4_2).f3), .int .i64 ((rd_T42 ((rd_T32 l0 x3_1).f3) x4_2).f4), .int .i64 ((rd_T42 ((rd_T32 l0 x3_1).f3) x4_2).f5), .int .i64 ((rd_T42 ((rd_T32 l0 x3_1).f3) x4_2).f6), .bool false]) ?_ 7 _ rfl; (with_reducible repeat (first | refine blk_drewN ?_ _ | refine blk_drew ?_ | refine blk_alloc ?_ _)); refine blk_put (cs := #[.string ((rd_T42 ((rd_T32 l0 x3_1).f3) x4_2).f0), .string ((rd_T42 ((rd_T32 l0 x3_1).f3) x4_2).f1), .int .u64 ((rd_T42 ((rd_T32 l0 x3_1).f3) x4_2).f2), .int .u64 ((rd_T42 ((rd_T32 l0 x3_1).f3) x4_2).f3), .int .i64 ((rd_T42 ((rd_T32 l0 x3_1).f3) x4_2).f4), .int .i64 ((rd_T42 ((rd_T32 l0 x3_1).f3) x4_2).f5), .int .i64 0, .bool false]) ?_ 6 _ rfl; (with_reducible repeat (first | refine blk_drewN ?_ _ | refine blk_drew ?_ | refine blk_alloc ?_ _)); refine blk_put (cs := #[.string ((rd_T42 ((rd_T32 l0 x3_1).f3) x4_2).f0), .string ((rd_T42 ((rd_T32 l0 x3_1).f3) x4_2).f1), .int .u64 ((rd_T42 ((rd_T32 l0 x3_1).f3) x4_2).f2), .int .u64 ((rd_T42 ((rd_T32 l0 x3_1).f3) x4_2).f3), .int .i64 ((rd_T42 ((rd_T32 l0 x3_1).f3) x4_2).f4), .int .i64 0, .int .i64 0, .bool false]) ?_ 5 _ rfl; (with_reducible repeat (first | refine blk_drewN ?_ _ | refine blk_drew ?_ | refine blk_alloc ?_ _)); refine blk_put (cs := #[.string ((rd_T42 ((rd_T32 l0 x3_1).f3) x4_2).f0), .string ((rd_T42 ((rd_T32 l0 x3_1).f3) x4_2).f1), .int .u64 ((rd_T42 ((rd_T32 l0 x3_1).f3) x4_2).f2), .int .u64 ((rd_T42 ((rd_T32 l0 x3_1).f3) x4_2).f3), .int .i64 0, .int .i64 0, .int .i64 0, .bool false]) ?_ 4 _ rfl; (with_reducible repeat (first | refine blk_drewN ?_ _ | refine blk_drew ?_ | refine blk_alloc ?_ _)); refine blk_put (cs := #[.string ((rd_T42 ((rd_T32 l0 x3_1).f3) x4_2).f0), .string ((rd_T42 ((rd_T32 l0 x3_1).f3) x4_2).f1), .int .u64 ((rd_T42 ((rd_T32 l0 x3_1).f3) x4_2).f2), .int .u64 0, .int .i64 0, .int .i64 0, .int .i64 0, .bool false]) ?_ 3 _ rfl; (with_reducible repeat (first | refine blk_drewN ?_ _ | refine blk_drew ?_ | refine blk_alloc ?_ _)); refine blk_put (cs := #[.string ((rd_T42 ((rd_T32 l0 x3_1).f3) x4_2).f0), .string ((rd_T42 ((rd_T32 l0 x3_1).f3) x4_2).f1), .int .u64 0, .int .u64 0, .int .i64 0, .int .i64 0, .int .i64 0, .bool false]) ?_ 2 _ rfl; (with_reducible repeat (first | refine blk_drewN ?_ _ | refine blk_drew ?_ | refine blk_alloc ?_ _)); refine blk_put (cs := #[.string ((rd_T42 ((rd_T32 l0 x3_1).f3) x4_2).f0), .string (⟨#[]⟩ : ByteArray), .int .u64 0, .int .u64 0, .int .i64 0, .int .i64 0, .int .i64 0, .bool false]) ?_ 1 _ rfl; (with_reducible repeat (first | refine blk_drewN ?_ _ | refine blk_drew ?_ | refine blk_alloc ?_ _)); refine blk_put (cs := #[.string (⟨#[]⟩ : ByteArray), .string (⟨#[]⟩ : ByteArray), .int .u64 0, .int .u64 0, .int .i64 0, .int .i64 0, .int .i64 0, .bool false]) ?_ 0 _ rfl; (with_reducible repeat (first | refine blk_drewN ?_ _ | refine blk_drew ?_ | refine blk_alloc ?_ _)); exact BK255.out))⟩; have n1_ : Aside0 (Below w.heap.size w w13) := ⟨(by rw [hw]; exact (by repeat (first | (with_reducible first | exact HB.out | apply below_alloc | apply pw_below_drewN | apply below_drew1 | refine below_set ?_ GE255.out) | exact HB.out)))⟩; clear hw; clear BK255; clear HB; have BK255 := n0_; have HB := n1_; clear n0_ n1_; obtain ⟨hcz14_0, hcz14_1, hcz14_2, hcz14_3, hcz14_4, hcz14_5, hcz14_6, hcz14_7, hfz14_0, hfz14_1, hfz14_2, hfz14_3, hfz14_4, hfz14_5, hfz14_6, hfz14_7⟩ := cells8 BK255.out))
                            go_ret
                            exact ⟨by first | rfl | (simp [errW_none, errW_some] <;> rfl) | (simp [*, errW_none, errW_some] <;> rfl), by repeat (first | (with_reducible first | exact HB.out | apply below_alloc | apply pw_below_drewN | apply below_drew1 | refine below_set ?_ GE255.out) | exact HB.out)⟩
                          · rw [if_neg c10] at H
                            have c10b0 : decide (((rd_T42 ((rd_T32 l0 x3_1).f3) x4_2).f5) < 1) = false := decide_eq_false c10
                            clear c10
                            by_cases c15 : ((rd_T42 ((rd_T32 l0 x3_1).f3) x4_2).f5) > 3
                            · rw [if_pos c15] at H
                              have c15b0 : decide (3 < ((rd_T42 ((rd_T32 l0 x3_1).f3) x4_2).f5)) = true := decide_eq_true c15
                              clear c15
                              obtain rfl := Option.some.inj H
                              have p252 : 0 ≤ (x3_1 : Int) := of_decide_eq_true (by first | (with_reducible assumption) | assumption)
                              have q252 : x3_1 < (l0.length : Int) := of_decide_eq_true (by first | (with_reducible assumption) | assumption)
                              obtain ⟨ad252, A252_1, c252_1, A252_2, c252_2, A252_3, c252_3, A252_4, c252_4, A252_5, c252_5, A252_6, c252_6, e252, hx252_0, hx252_1, hx252_2, hx252_3, hx252_4, hx252_5, hx252_6, hl252_1, hi252_1, hl252_2, hi252_2, hl252_3, hi252_3, hl252_4, hi252_4, hl252_5, hi252_5, hl252_6, hi252_6⟩ := at_T32 HR0.out x3_1 p252 q252
                              obtain rfl : ad251 = ad252 := (by injection e252)
                              replace hx252_0 := (HB.out.cell (World.block_lt_of_cell? w _ hx252_0)).trans hx252_0
                              replace hx252_1 := (HB.out.cell (World.block_lt_of_cell? w _ hx252_1)).trans hx252_1
                              replace hx252_2 := (HB.out.cell (World.block_lt_of_cell? w _ hx252_2)).trans hx252_2
                              replace hx252_3 := (HB.out.cell (World.block_lt_of_cell? w _ hx252_3)).trans hx252_3
                              replace hx252_4 := (HB.out.cell (World.block_lt_of_cell? w _ hx252_4)).trans hx252_4
                              replace hx252_5 := (HB.out.cell (World.block_lt_of_cell? w _ hx252_5)).trans hx252_5
                              replace hx252_6 := (HB.out.cell (World.block_lt_of_cell? w _ hx252_6)).trans hx252_6
                              have HR252_1 := Aside0.mk hi252_1
                              have HC252_1 := Aside0.mk hl252_1
                              clear hi252_1 hl252_1
                              have HR252_2 := Aside0.mk hi252_2
                              have HC252_2 := Aside0.mk hl252_2
                              clear hi252_2 hl252_2
                              have HR252_3 := Aside0.mk hi252_3
                              have HC252_3 := Aside0.mk hl252_3
                              clear hi252_3 hl252_3
                              have HR252_4 := Aside0.mk hi252_4
                              have HC252_4 := Aside0.mk hl252_4
                              clear hi252_4 hl252_4
                              have HR252_5 := Aside0.mk hi252_5
                              have HC252_5 := Aside0.mk hl252_5
                              clear hi252_5 hl252_5
                              have HR252_6 := Aside0.mk hi252_6
                              have HC252_6 := Aside0.mk hl252_6
                              clear hi252_6 hl252_6
                              replace p252 := eq_true p252
                              replace q252 := eq_true q252
                              have p253 : 0 ≤ (x3_1 : Int) := of_decide_eq_true (by first | (with_reducible assumption) | assumption)
                              have q253 : x3_1 < (l0.length : Int) := of_decide_eq_true (by first | (with_reducible assumption) | assumption)
                              obtain ⟨ad253, A253_1, c253_1, A253_2, c253_2, A253_3, c253_3, A253_4, c253_4, A253_5, c253_5, A253_6, c253_6, e253, hx253_0, hx253_1, hx253_2, hx253_3, hx253_4, hx253_5, hx253_6, hl253_1, hi253_1, hl253_2, hi253_2, hl253_3, hi253_3, hl253_4, hi253_4, hl253_5, hi253_5, hl253_6, hi253_6⟩ := at_T32 HR0.out x3_1 p253 q253
                              obtain rfl : ad251 = ad253 := (by injection e253)
                              replace hx253_0 := (HB.out.cell (World.block_lt_of_cell? w _ hx253_0)).trans hx253_0
                              replace hx253_1 := (HB.out.cell (World.block_lt_of_cell? w _ hx253_1)).trans hx253_1
                              replace hx253_2 := (HB.out.cell (World.block_lt_of_cell? w _ hx253_2)).trans hx253_2
                              replace hx253_3 := (HB.out.cell (World.block_lt_of_cell? w _ hx253_3)).trans hx253_3
                              replace hx253_4 := (HB.out.cell (World.block_lt_of_cell? w _ hx253_4)).trans hx253_4
                              replace hx253_5 := (HB.out.cell (World.block_lt_of_cell? w _ hx253_5)).trans hx253_5
                              replace hx253_6 := (HB.out.cell (World.block_lt_of_cell? w _ hx253_6)).trans hx253_6
                              have HR253_1 := Aside0.mk hi253_1
                              have HC253_1 := Aside0.mk hl253_1
                              clear hi253_1 hl253_1
                              have HR253_2 := Aside0.mk hi253_2
                              have HC253_2 := Aside0.mk hl253_2
                              clear hi253_2 hl253_2
                              have HR253_3 := Aside0.mk hi253_3
                              have HC253_3 := Aside0.mk hl253_3
                              clear hi253_3 hl253_3
                              have HR253_4 := Aside0.mk hi253_4
                              have HC253_4 := Aside0.mk hl253_4
                              clear hi253_4 hl253_4
                              have HR253_5 := Aside0.mk hi253_5
                              have HC253_5 := Aside0.mk hl253_5
                              clear hi253_5 hl253_5
                              have HR253_6 := Aside0.mk hi253_6
                              have HC253_6 := Aside0.mk hl253_6
                              clear hi253_6 hl253_6
                              replace p253 := eq_true p253
                              replace q253 := eq_true q253
                              have ea_ := Option.some.inj (hx252_1.symm.trans hx253_1)
                              injection ea_ with ea_ en_ ec_
                              subst ea_
                              subst ec_
                              clear en_
                              have ea_ := Option.some.inj (hx252_2.symm.trans hx253_2)
                              injection ea_ with ea_ en_ ec_
                              subst ea_
                              subst ec_
                              clear en_
                              have ea_ := Option.some.inj (hx252_3.symm.trans hx253_3)
                              injection ea_ with ea_ en_ ec_
                              subst ea_
                              subst ec_
                              clear en_
                              have ea_ := Option.some.inj (hx252_4.symm.trans hx253_4)
                              injection ea_ with ea_ en_ ec_
                              subst ea_
                              subst ec_
                              clear en_
                              have ea_ := Option.some.inj (hx252_5.symm.trans hx253_5)
                              injection ea_ with ea_ en_ ec_
                              subst ea_
                              subst ec_
                              clear en_
                              have ea_ := Option.some.inj (hx252_6.symm.trans hx253_6)
                              injection ea_ with ea_ en_ ec_
                              subst ea_
                              subst ec_
                              clear en_
                              have p254 : 0 ≤ (x4_2 : Int) := of_decide_eq_true (by first | (with_reducible assumption) | assumption)
                              have q254 : x4_2 < (((rd_T32 l0 x3_1).f3).length : Int) := of_decide_eq_true (by first | (with_reducible assumption) | assumption)
                              obtain ⟨ad254, e254, hx254_0, hx254_1, hx254_2, hx254_3, hx254_4, hx254_5, hx254_6, hx254_7⟩ := at_T42 HR253_3.out x4_2 p254 q254
                              cases e254
                              replace hx254_0 := (HB.out.cell (World.block_lt_of_cell? w _ hx254_0)).trans hx254_0
                              replace hx254_1 := (HB.out.cell (World.block_lt_of_cell? w _ hx254_1)).trans hx254_1
                              replace hx254_2 := (HB.out.cell (World.block_lt_of_cell? w _ hx254_2)).trans hx254_2
                              replace hx254_3 := (HB.out.cell (World.block_lt_of_cell? w _ hx254_3)).trans hx254_3
                              replace hx254_4 := (HB.out.cell (World.block_lt_of_cell? w _ hx254_4)).trans hx254_4
                              replace hx254_5 := (HB.out.cell (World.block_lt_of_cell? w _ hx254_5)).trans hx254_5
                              replace hx254_6 := (HB.out.cell (World.block_lt_of_cell? w _ hx254_6)).trans hx254_6
                              replace hx254_7 := (HB.out.cell (World.block_lt_of_cell? w _ hx254_7)).trans hx254_7
                              replace p254 := eq_true p254
                              replace q254 := eq_true q254
                              go_wp2_with (first | ((with_reducible refine gate_dst (N := 5) rfl ?_); (try (refine gate_guard (by rfl) ?_; dsimp only)); refine box_event ?hg (N := 5) ?hd (cs := #[.string (⟨#[]⟩ : ByteArray), .string (⟨#[]⟩ : ByteArray), .int .u64 0, .int .u64 0, .int .i64 0, .int .i64 0, .int .i64 0, .bool false]) (t := 42) ?hr ?_; (case hd => rfl); (case hg => rfl); (case hr => first | (go_simp; done) | (go_simp; rfl)); intro gb255 hg w16 hbox hb; have n0_ := Aside0.mk (below_step (by repeat (first | (with_reducible first | exact HB.out | apply below_alloc | apply pw_below_drewN | apply below_drew1) | exact HB.out)) hb); have n1_ := Aside0.mk (hbox); have n2_ := Aside0.mk ((by rw [hg]; exact (below_size (by repeat (first | (with_reducible first | exact HB.out | apply below_alloc | apply pw_below_drewN | apply below_drew1) | exact HB.out))) : w.heap.size ≤ gb255)); have n3_ := n2_; clear HB; have HB := n0_; have BK255 := n1_; have GW255 := n2_; have GE255 := n3_; clear n0_ n1_ n2_ n3_; clear hb hbox hg; obtain ⟨hcz17_0, hcz17_1, hcz17_2, hcz17_3, hcz17_4, hcz17_5, hcz17_6, hcz17_7, hfz17_0, hfz17_1, hfz17_2, hfz17_3, hfz17_4, hfz17_5, hfz17_6, hfz17_7⟩ := cells8 BK255.out) | ((with_reducible refine gate_store (t := 42) (p := 5) rfl ?_); refine store_event (t := 42) (p := 5) (v := ?vo_w18) (w1 := ((((((((w16.setCell ⟨gb255, 0, none⟩ (.string ((rd_T42 ((rd_T32 l0 x3_1).f3) x4_2).f0))).setCell ⟨gb255, 1, none⟩ (.string ((rd_T42 ((rd_T32 l0 x3_1).f3) x4_2).f1))).setCell ⟨gb255, 2, none⟩ (.int .u64 ((rd_T42 ((rd_T32 l0 x3_1).f3) x4_2).f2))).setCell ⟨gb255, 3, none⟩ (.int .u64 ((rd_T42 ((rd_T32 l0 x3_1).f3) x4_2).f3))).setCell ⟨gb255, 4, none⟩ (.int .i64 ((rd_T42 ((rd_T32 l0 x3_1).f3) x4_2).f4))).setCell ⟨gb255, 5, none⟩ (.int .i64 ((rd_T42 ((rd_T32 l0 x3_1).f3) x4_2).f5))).setCell ⟨gb255, 6, none⟩ (.int .i64 ((rd_T42 ((rd_T32 l0 x3_1).f3) x4_2).f6))).setCell ⟨gb255, 7, none⟩ (.bool ((rd_T42 ((rd_T32 l0 x3_1).f3) x4_2).f7)))) ?hg ?ho ?hn ?hr ?_; (case ho => rfl); (case hg => rfl); (case hn => rfl); (case hr => first | (go_simp; done) | (go_simp; rfl)); intro w18 hw; have n0_ : Aside0 (w18.heap[gb255]? = some (.cells #[.string ((rd_T42 ((rd_T32 l0 x3_1).f3) x4_2).f0), .string ((rd_T42 ((rd_T32 l0 x3_1).f3) x4_2).f1), .int .u64 ((rd_T42 ((rd_T32 l0 x3_1).f3) x4_2).f2), .int .u64 ((rd_T42 ((rd_T32 l0 x3_1).f3) x4_2).f3), .int .i64 ((rd_T42 ((rd_T32 l0 x3_1).f3) x4_2).f4), .int .i64 ((rd_T42 ((rd_T32 l0 x3_1).f3) x4_2).f5), .int .i64 ((rd_T42 ((rd_T32 l0 x3_1).f3) x4_2).f6), .bool ((rd_T42 ((rd_T32 l0 x3_1).f3) x4_2).f7)] 42 (0, 0))) := ⟨(by rw [hw]; exact (by (with_reducible repeat (first | refine blk_drewN ?_ _ | refine blk_drew ?_ | refine blk_alloc ?_ _)); refine blk_put (cs := #[.string ((rd_T42 ((rd_T32 l0 x3_1).f3) x4_2).f0), .string ((rd_T42 ((rd_T32 l0 x3_1).f3) x4_2).f1), .int .u64 ((rd_T42 ((rd_T32 l0 x3_1).f3) x4_2).f2), .int .u64 ((rd_T42 ((rd_T32 l0 x3_1).f3) x4_2).f3), .int .i64 ((rd_T42 ((rd_T32 l0 x3_1).f3) x4_2).f4), .int .i64 ((rd_T42 ((rd_T32 l0 x3_1).f3) x4_2).f5), .int .i64 ((rd_T42 ((rd_T32 l0 x3_1).f3) x4_2).f6), .bool false]) ?_ 7 _ rfl; (with_reducible repeat (first | refine blk_drewN ?_ _ | refine blk_drew ?_ | refine blk_alloc ?_ _)); refine blk_put (cs := #[.string ((rd_T42 ((rd_T32 l0 x3_1).f3) x4_2).f0), .string ((rd_T42 ((rd_T32 l0 x3_1).f3) x4_2).f1), .int .u64 ((rd_T42 ((rd_T32 l0 x3_1).f3) x4_2).f2), .int .u64 ((rd_T42 ((rd_T32 l0 x3_1).f3) x4_2).f3), .int .i64 ((rd_T42 ((rd_T32 l0 x3_1).f3) x4_2).f4), .int .i64 ((rd_T42 ((rd_T32 l0 x3_1).f3) x4_2).f5), .int .i64 0, .bool false]) ?_ 6 _ rfl; (with_reducible repeat (first | refine blk_drewN ?_ _ | refine blk_drew ?_ | refine blk_alloc ?_ _)); refine blk_put (cs := #[.string ((rd_T42 ((rd_T32 l0 x3_1).f3) x4_2).f0), .string ((rd_T42 ((rd_T32 l0 x3_1).f3) x4_2).f1), .int .u64 ((rd_T42 ((rd_T32 l0 x3_1).f3) x4_2).f2), .int .u64 ((rd_T42 ((rd_T32 l0 x3_1).f3) x4_2).f3), .int .i64 ((rd_T42 ((rd_T32 l0 x3_1).f3) x4_2).f4), .int .i64 0, .int .i64 0, .bool false]) ?_ 5 _ rfl; (with_reducible repeat (first | refine blk_drewN ?_ _ | refine blk_drew ?_ | refine blk_alloc ?_ _)); refine blk_put (cs := #[.string ((rd_T42 ((rd_T32 l0 x3_1).f3) x4_2).f0), .string ((rd_T42 ((rd_T32 l0 x3_1).f3) x4_2).f1), .int .u64 ((rd_T42 ((rd_T32 l0 x3_1).f3) x4_2).f2), .int .u64 ((rd_T42 ((rd_T32 l0 x3_1).f3) x4_2).f3), .int .i64 0, .int .i64 0, .int .i64 0, .bool false]) ?_ 4 _ rfl; (with_reducible repeat (first | refine blk_drewN ?_ _ | refine blk_drew ?_ | refine blk_alloc ?_ _)); refine blk_put (cs := #[.string ((rd_T42 ((rd_T32 l0 x3_1).f3) x4_2).f0), .string ((rd_T42 ((rd_T32 l0 x3_1).f3) x4_2).f1), .int .u64 ((rd_T42 ((rd_T32 l0 x3_1).f3) x4_2).f2), .int .u64 0, .int .i64 0, .int .i64 0, .int .i64 0, .bool false]) ?_ 3 _ rfl; (with_reducible repeat (first | refine blk_drewN ?_ _ | refine blk_drew ?_ | refine blk_alloc ?_ _)); refine blk_put (cs := #[.string ((rd_T42 ((rd_T32 l0 x3_1).f3) x4_2).f0), .string ((rd_T42 ((rd_T32 l0 x3_1).f3) x4_2).f1), .int .u64 0, .int .u64 0, .int .i64 0, .int .i64 0, .int .i64 0, .bool false]) ?_ 2 _ rfl; (with_reducible repeat (first | refine blk_drewN ?_ _ | refine blk_drew ?_ | refine blk_alloc ?_ _)); refine blk_put (cs := #[.string ((rd_T42 ((rd_T32 l0 x3_1).f3) x4_2).f0), .string (⟨#[]⟩ : ByteArray), .int .u64 0, .int .u64 0, .int .i64 0, .int .i64 0, .int .i64 0, .bool false]) ?_ 1 _ rfl; (with_reducible repeat (first | refine blk_drewN ?_ _ | refine blk_drew ?_ | refine blk_alloc ?_ _)); refine blk_put (cs := #[.string (⟨#[]⟩ : ByteArray), .string (⟨#[]⟩ : ByteArray), .int .u64 0, .int .u64 0, .int .i64 0, .int .i64 0, .int .i64 0, .bool false]) ?_ 0 _ rfl; (with_reducible repeat (first | refine blk_drewN ?_ _ | refine blk_drew ?_ | refine blk_alloc ?_ _)); exact BK255.out))⟩; have n1_ : Aside0 (Below w.heap.size w w18) := ⟨(by rw [hw]; exact (by repeat (first | (with_reducible first | exact HB.out | apply below_alloc | apply pw_below_drewN | apply below_drew1 | refine below_set ?_ GE255.out) | exact HB.out)))⟩; clear hw; clear BK255; clear HB; have BK255 := n0_; have HB := n1_; clear n0_ n1_; obtain ⟨hcz19_0, hcz19_1, hcz19_2, hcz19_3, hcz19_4, hcz19_5, hcz19_6, hcz19_7, hfz19_0, hfz19_1, hfz19_2, hfz19_3, hfz19_4, hfz19_5, hfz19_6, hfz19_7⟩ := cells8 BK255.out))
                              go_ret
                              exact ⟨by first | rfl | (simp [errW_none, errW_some] <;> rfl) | (simp [*, errW_none, errW_some] <;> rfl), by repeat (first | (with_reducible first | exact HB.out | apply below_alloc | apply pw_below_drewN | apply below_drew1 | refine below_set ?_ GE255.out) | exact HB.out)⟩
                            · rw [if_neg c15] at H
                              have c15b0 : decide (3 < ((rd_T42 ((rd_T32 l0 x3_1).f3) x4_2).f5)) = false := decide_eq_false c15
                              clear c15
                              by_cases c20 : ((rd_T42 ((rd_T32 l0 x3_1).f3) x4_2).f6) < 1
                              · rw [if_pos c20] at H
                                have c20b0 : decide (((rd_T42 ((rd_T32 l0 x3_1).f3) x4_2).f6) < 1) = true := decide_eq_true c20
                                clear c20
                                obtain rfl := Option.some.inj H
                                have p252 : 0 ≤ (x3_1 : Int) := of_decide_eq_true (by first | (with_reducible assumption) | assumption)
                                have q252 : x3_1 < (l0.length : Int) := of_decide_eq_true (by first | (with_reducible assumption) | assumption)
                                obtain ⟨ad252, A252_1, c252_1, A252_2, c252_2, A252_3, c252_3, A252_4, c252_4, A252_5, c252_5, A252_6, c252_6, e252, hx252_0, hx252_1, hx252_2, hx252_3, hx252_4, hx252_5, hx252_6, hl252_1, hi252_1, hl252_2, hi252_2, hl252_3, hi252_3, hl252_4, hi252_4, hl252_5, hi252_5, hl252_6, hi252_6⟩ := at_T32 HR0.out x3_1 p252 q252
                                obtain rfl : ad251 = ad252 := (by injection e252)
                                replace hx252_0 := (HB.out.cell (World.block_lt_of_cell? w _ hx252_0)).trans hx252_0
                                replace hx252_1 := (HB.out.cell (World.block_lt_of_cell? w _ hx252_1)).trans hx252_1
                                replace hx252_2 := (HB.out.cell (World.block_lt_of_cell? w _ hx252_2)).trans hx252_2
                                replace hx252_3 := (HB.out.cell (World.block_lt_of_cell? w _ hx252_3)).trans hx252_3
                                replace hx252_4 := (HB.out.cell (World.block_lt_of_cell? w _ hx252_4)).trans hx252_4
                                replace hx252_5 := (HB.out.cell (World.block_lt_of_cell? w _ hx252_5)).trans hx252_5
                                replace hx252_6 := (HB.out.cell (World.block_lt_of_cell? w _ hx252_6)).trans hx252_6
                                have HR252_1 := Aside0.mk hi252_1
                                have HC252_1 := Aside0.mk hl252_1
                                clear hi252_1 hl252_1
                                have HR252_2 := Aside0.mk hi252_2
                                have HC252_2 := Aside0.mk hl252_2
                                clear hi252_2 hl252_2
                                have HR252_3 := Aside0.mk hi252_3
                                have HC252_3 := Aside0.mk hl252_3
                                clear hi252_3 hl252_3
                                have HR252_4 := Aside0.mk hi252_4
                                have HC252_4 := Aside0.mk hl252_4
                                clear hi252_4 hl252_4
                                have HR252_5 := Aside0.mk hi252_5
                                have HC252_5 := Aside0.mk hl252_5
                                clear hi252_5 hl252_5
                                have HR252_6 := Aside0.mk hi252_6
                                have HC252_6 := Aside0.mk hl252_6
                                clear hi252_6 hl252_6
                                replace p252 := eq_true p252
                                replace q252 := eq_true q252
                                have p253 : 0 ≤ (x3_1 : Int) := of_decide_eq_true (by first | (with_reducible assumption) | assumption)
                                have q253 : x3_1 < (l0.length : Int) := of_decide_eq_true (by first | (with_reducible assumption) | assumption)
                                obtain ⟨ad253, A253_1, c253_1, A253_2, c253_2, A253_3, c253_3, A253_4, c253_4, A253_5, c253_5, A253_6, c253_6, e253, hx253_0, hx253_1, hx253_2, hx253_3, hx253_4, hx253_5, hx253_6, hl253_1, hi253_1, hl253_2, hi253_2, hl253_3, hi253_3, hl253_4, hi253_4, hl253_5, hi253_5, hl253_6, hi253_6⟩ := at_T32 HR0.out x3_1 p253 q253
                                obtain rfl : ad251 = ad253 := (by injection e253)
                                replace hx253_0 := (HB.out.cell (World.block_lt_of_cell? w _ hx253_0)).trans hx253_0
                                replace hx253_1 := (HB.out.cell (World.block_lt_of_cell? w _ hx253_1)).trans hx253_1
                                replace hx253_2 := (HB.out.cell (World.block_lt_of_cell? w _ hx253_2)).trans hx253_2
                                replace hx253_3 := (HB.out.cell (World.block_lt_of_cell? w _ hx253_3)).trans hx253_3
                                replace hx253_4 := (HB.out.cell (World.block_lt_of_cell? w _ hx253_4)).trans hx253_4
                                replace hx253_5 := (HB.out.cell (World.block_lt_of_cell? w _ hx253_5)).trans hx253_5
                                replace hx253_6 := (HB.out.cell (World.block_lt_of_cell? w _ hx253_6)).trans hx253_6
                                have HR253_1 := Aside0.mk hi253_1
                                have HC253_1 := Aside0.mk hl253_1
                                clear hi253_1 hl253_1
                                have HR253_2 := Aside0.mk hi253_2
                                have HC253_2 := Aside0.mk hl253_2
                                clear hi253_2 hl253_2
                                have HR253_3 := Aside0.mk hi253_3
                                have HC253_3 := Aside0.mk hl253_3
                                clear hi253_3 hl253_3
                                have HR253_4 := Aside0.mk hi253_4
                                have HC253_4 := Aside0.mk hl253_4
                                clear hi253_4 hl253_4
                                have HR253_5 := Aside0.mk hi253_5
                                have HC253_5 := Aside0.mk hl253_5
                                clear hi253_5 hl253_5
                                have HR253_6 := Aside0.mk hi253_6
                                have HC253_6 := Aside0.mk hl253_6
                                clear hi253_6 hl253_6
                                replace p253 := eq_true p253
                                replace q253 := eq_true q253
                                have ea_ := Option.some.inj (hx252_1.symm.trans hx253_1)
                                injection ea_ with ea_ en_ ec_
                                subst ea_
                                subst ec_
                                clear en_
                                have ea_ := Option.some.inj (hx252_2.symm.trans hx253_2)
                                injection ea_ with ea_ en_ ec_
                                subst ea_
                                subst ec_
                                clear en_
                                have ea_ := Option.some.inj (hx252_3.symm.trans hx253_3)
                                injection ea_ with ea_ en_ ec_
                                subst ea_
                                subst ec_
                                clear en_
                                have ea_ := Option.some.inj (hx252_4.symm.trans hx253_4)
                                injection ea_ with ea_ en_ ec_
                                subst ea_
                                subst ec_
                                clear en_
                                have ea_ := Option.some.inj (hx252_5.symm.trans hx253_5)
                                injection ea_ with ea_ en_ ec_
                                subst ea_
                                subst ec_
                                clear en_
                                have ea_ := Option.some.inj (hx252_6.symm.trans hx253_6)
                                injection ea_ with ea_ en_ ec_
                                subst ea_
                                subst ec_
                                clear en_
                                have p254 : 0 ≤ (x4_2 : Int) := of_decide_eq_true (by first | (with_reducible assumption) | assumption)
                                have q254 : x4_2 < (((rd_T32 l0 x3_1).f3).length : Int) := of_decide_eq_true (by first | (with_reducible assumption) | assumption)
                                obtain ⟨ad254, e254, hx254_0, hx254_1, hx254_2, hx254_3, hx254_4, hx254_5, hx254_6, hx254_7⟩ := at_T42 HR253_3.out x4_2 p254 q254
                                cases e254
                                replace hx254_0 := (HB.out.cell (World.block_lt_of_cell? w _ hx254_0)).trans hx254_0
                                replace hx254_1 := (HB.out.cell (World.block_lt_of_cell? w _ hx254_1)).trans hx254_1
                                replace hx254_2 := (HB.out.cell (World.block_lt_of_cell? w _ hx254_2)).trans hx254_2
                                replace hx254_3 := (HB.out.cell (World.block_lt_of_cell? w _ hx254_3)).trans hx254_3
                                replace hx254_4 := (HB.out.cell (World.block_lt_of_cell? w _ hx254_4)).trans hx254_4
                                replace hx254_5 := (HB.out.cell (World.block_lt_of_cell? w _ hx254_5)).trans hx254_5
                                replace hx254_6 := (HB.out.cell (World.block_lt_of_cell? w _ hx254_6)).trans hx254_6
                                replace hx254_7 := (HB.out.cell (World.block_lt_of_cell? w _ hx254_7)).trans hx254_7
                                replace p254 := eq_true p254
                                replace q254 := eq_true q254
                                go_wp2_with (first | ((with_reducible refine gate_dst (N := 5) rfl ?_); (try (refine gate_guard (by rfl) ?_; dsimp only)); refine box_event ?hg (N := 5) ?hd (cs := #[.string (⟨#[]⟩ : ByteArray), .string (⟨#[]⟩ : ByteArray), .int .u64 0, .int .u64 0, .int .i64 0, .int .i64 0, .int .i64 0, .bool false]) (t := 42) ?hr ?_; (case hd => rfl); (case hg => rfl); (case hr => first | (go_simp; done) | (go_simp; rfl)); intro gb255 hg w21 hbox hb; have n0_ := Aside0.mk (below_step (by repeat (first | (with_reducible first | exact HB.out | apply below_alloc | apply pw_below_drewN | apply below_drew1) | exact HB.out)) hb); have n1_ := Aside0.mk (hbox); have n2_ := Aside0.mk ((by rw [hg]; exact (below_size (by repeat (first | (with_reducible first | exact HB.out | apply below_alloc | apply pw_below_drewN | apply below_drew1) | exact HB.out))) : w.heap.size ≤ gb255)); have n3_ := n2_; clear HB; have HB := n0_; have BK255 := n1_; have GW255 := n2_; have GE255 := n3_; clear n0_ n1_ n2_ n3_; clear hb hbox hg; obtain ⟨hcz22_0, hcz22_1, hcz22_2, hcz22_3, hcz22_4, hcz22_5, hcz22_6, hcz22_7, hfz22_0, hfz22_1, hfz22_2, hfz22_3, hfz22_4, hfz22_5, hfz22_6, hfz22_7⟩ := cells8 BK255.out) | ((with_reducible refine gate_store (t := 42) (p := 5) rfl ?_); refine store_event (t := 42) (p := 5) (v := ?vo_w23) (w1 := ((((((((w21.setCell ⟨gb255, 0, none⟩ (.string ((rd_T42 ((rd_T32 l0 x3_1).f3) x4_2).f0))).setCell ⟨gb255, 1, none⟩ (.string ((rd_T42 ((rd_T32 l0 x3_1).f3) x4_2).f1))).setCell ⟨gb255, 2, none⟩ (.int .u64 ((rd_T42 ((rd_T32 l0 x3_1).f3) x4_2).f2))).setCell ⟨gb255, 3, none⟩ (.int .u64 ((rd_T42 ((rd_T32 l0 x3_1).f3) x4_2).f3))).setCell ⟨gb255, 4, none⟩ (.int .i64 ((rd_T42 ((rd_T32 l0 x3_1).f3) x4_2).f4))).setCell ⟨gb255, 5, none⟩ (.int .i64 ((rd_T42 ((rd_T32 l0 x3_1).f3) x4_2).f5))).setCell ⟨gb255, 6, none⟩ (.int .i64 ((rd_T42 ((rd_T32 l0 x3_1).f3) x4_2).f6))).setCell ⟨gb255, 7, none⟩ (.bool ((rd_T42 ((rd_T32 l0 x3_1).f3) x4_2).f7)))) ?hg ?ho ?hn ?hr ?_; (case ho => rfl); (case hg => rfl); (case hn => rfl); (case hr => first | (go_simp; done) | (go_simp; rfl)); intro w23 hw; have n0_ : Aside0 (w23.heap[gb255]? = some (.cells #[.string ((rd_T42 ((rd_T32 l0 x3_1).f3) x4_2).f0), .string ((rd_T42 ((rd_T32 l0 x3_1).f3) x4_2).f1), .int .u64 ((rd_T42 ((rd_T32 l0 x3_1).f3) x4_2).f2), .int .u64 ((rd_T42 ((rd_T32 l0 x3_1).f3) x4_2).f3), .int .i64 ((rd_T42 ((rd_T32 l0 x3_1).f3) x4_2).f4), .int .i64 ((rd_T42 ((rd_T32 l0 x3_1).f3) x4_2).f5), .int .i64 ((rd_T42 ((rd_T32 l0 x3_1).f3) x4_2).f6), .bool ((rd_T42 ((rd_T32 l0 x3_1).f3) x4_2).f7)] 42 (0, 0))) := ⟨(by rw [hw]; exact (by (with_reducible repeat (first | refine blk_drewN ?_ _ | refine blk_drew ?_ | refine blk_alloc ?_ _)); refine blk_put (cs := #[.string ((rd_T42 ((rd_T32 l0 x3_1).f3) x4_2).f0), .string ((rd_T42 ((rd_T32 l0 x3_1).f3) x4_2).f1), .int .u64 ((rd_T42 ((rd_T32 l0 x3_1).f3) x4_2).f2), .int .u64 ((rd_T42 ((rd_T32 l0 x3_1).f3) x4_2).f3), .int .i64 ((rd_T42 ((rd_T32 l0 x3_1).f3) x4_2).f4), .int .i64 ((rd_T42 ((rd_T32 l0 x3_1).f3) x4_2).f5), .int .i64 ((rd_T42 ((rd_T32 l0 x3_1).f3) x4_2).f6), .bool false]) ?_ 7 _ rfl; (with_reducible repeat (first | refine blk_drewN ?_ _ | refine blk_drew ?_ | refine blk_alloc ?_ _)); refine blk_put (cs := #[.string ((rd_T42 ((rd_T32 l0 x3_1).f3) x4_2).f0), .string ((rd_T42 ((rd_T32 l0 x3_1).f3) x4_2).f1), .int .u64 ((rd_T42 ((rd_T32 l0 x3_1).f3) x4_2).f2), .int .u64 ((rd_T42 ((rd_T32 l0 x3_1).f3) x4_2).f3), .int .i64 ((rd_T42 ((rd_T32 l0 x3_1).f3) x4_2).f4), .int .i64 ((rd_T42 ((rd_T32 l0 x3_1).f3) x4_2).f5), .int .i64 0, .bool false]) ?_ 6 _ rfl; (with_reducible repeat (first | refine blk_drewN ?_ _ | refine blk_drew ?_ | refine blk_alloc ?_ _)); refine blk_put (cs := #[.string ((rd_T42 ((rd_T32 l0 x3_1).f3) x4_2).f0), .string ((rd_T42 ((rd_T32 l0 x3_1).f3) x4_2).f1), .int .u64 ((rd_T42 ((rd_T32 l0 x3_1).f3) x4_2).f2), .int .u64 ((rd_T42 ((rd_T32 l0 x3_1).f3) x4_2).f3), .int .i64 ((rd_T42 ((rd_T32 l0 x3_1).f3) x4_2).f4), .int .i64 0, .int .i64 0, .bool false]) ?_ 5 _ rfl; (with_reducible repeat (first | refine blk_drewN ?_ _ | refine blk_drew ?_ | refine blk_alloc ?_ _)); refine blk_put (cs := #[.string ((rd_T42 ((rd_T32 l0 x3_1).f3) x4_2).f0), .string ((rd_T42 ((rd_T32 l0 x3_1).f3) x4_2).f1), .int .u64 ((rd_T42 ((rd_T32 l0 x3_1).f3) x4_2).f2), .int .u64 ((rd_T42 ((rd_T32 l0 x3_1).f3) x4_2).f3), .int .i64 0, .int .i64 0, .int .i64 0, .bool false]) ?_ 4 _ rfl; (with_reducible repeat (first | refine blk_drewN ?_ _ | refine blk_drew ?_ | refine blk_alloc ?_ _)); refine blk_put (cs := #[.string ((rd_T42 ((rd_T32 l0 x3_1).f3) x4_2).f0), .string ((rd_T42 ((rd_T32 l0 x3_1).f3) x4_2).f1), .int .u64 ((rd_T42 ((rd_T32 l0 x3_1).f3) x4_2).f2), .int .u64 0, .int .i64 0, .int .i64 0, .int .i64 0, .bool false]) ?_ 3 _ rfl; (with_reducible repeat (first | refine blk_drewN ?_ _ | refine blk_drew ?_ | refine blk_alloc ?_ _)); refine blk_put (cs := #[.string ((rd_T42 ((rd_T32 l0 x3_1).f3) x4_2).f0), .string ((rd_T42 ((rd_T32 l0 x3_1).f3) x4_2).f1), .int .u64 0, .int .u64 0, .int .i64 0, .int .i64 0, .int .i64 0, .bool false]) ?_ 2 _ rfl; (with_reducible repeat (first | refine blk_drewN ?_ _ | refine blk_drew ?_ | refine blk_alloc ?_ _)); refine blk_put (cs := #[.string ((rd_T42 ((rd_T32 l0 x3_1).f3) x4_2).f0), .string (⟨#[]⟩ : ByteArray), .int .u64 0, .int .u64 0, .int .i64 0, .int .i64 0, .int .i64 0, .bool false]) ?_ 1 _ rfl; (with_reducible repeat (first | refine blk_drewN ?_ _ | refine blk_drew ?_ | refine blk_alloc ?_ _)); refine blk_put (cs := #[.string (⟨#[]⟩ : ByteArray), .string (⟨#[]⟩ : ByteArray), .int .u64 0, .int .u64 0, .int .i64 0, .int .i64 0, .int .i64 0, .bool false]) ?_ 0 _ rfl; (with_reducible repeat (first | refine blk_drewN ?_ _ | refine blk_drew ?_ | refine blk_alloc ?_ _)); exact BK255.out))⟩; have n1_ : Aside0 (Below w.heap.size w w23) := ⟨(by rw [hw]; exact (by repeat (first | (with_reducible first | exact HB.out | apply below_alloc | apply pw_below_drewN | apply below_drew1 | refine below_set ?_ GE255.out) | exact HB.out)))⟩; clear hw; clear BK255; clear HB; have BK255 := n0_; have HB := n1_; clear n0_ n1_; obtain ⟨hcz24_0, hcz24_1, hcz24_2, hcz24_3, hcz24_4, hcz24_5, hcz24_6, hcz24_7, hfz24_0, hfz24_1, hfz24_2, hfz24_3, hfz24_4, hfz24_5, hfz24_6, hfz24_7⟩ := cells8 BK255.out))
                                go_ret
                                exact ⟨by first | rfl | (simp [errW_none, errW_some] <;> rfl) | (simp [*, errW_none, errW_some] <;> rfl), by repeat (first | (with_reducible first | exact HB.out | apply below_alloc | apply pw_below_drewN | apply below_drew1 | refine below_set ?_ GE255.out) | exact HB.out)⟩
                              · rw [if_neg c20] at H
                                have c20b0 : decide (((rd_T42 ((rd_T32 l0 x3_1).f3) x4_2).f6) < 1) = false := decide_eq_false c20
                                clear c20
                                by_cases c25 : ((rd_T42 ((rd_T32 l0 x3_1).f3) x4_2).f6) > 2
                                · rw [if_pos c25] at H
                                  have c25b0 : decide (2 < ((rd_T42 ((rd_T32 l0 x3_1).f3) x4_2).f6)) = true := decide_eq_true c25
                                  clear c25
                                  obtain rfl := Option.some.inj H
                                  have p252 : 0 ≤ (x3_1 : Int) := of_decide_eq_true (by first | (with_reducible assumption) | assumption)
                                  have q252 : x3_1 < (l0.length : Int) := of_decide_eq_true (by first | (with_reducible assumption) | assumption)
                                  obtain ⟨ad252, A252_1, c252_1, A252_2, c252_2, A252_3, c252_3, A252_4, c252_4, A252_5, c252_5, A252_6, c252_6, e252, hx252_0, hx252_1, hx252_2, hx252_3, hx252_4, hx252_5, hx252_6, hl252_1, hi252_1, hl252_2, hi252_2, hl252_3, hi252_3, hl252_4, hi252_4, hl252_5, hi252_5, hl252_6, hi252_6⟩ := at_T32 HR0.out x3_1 p252 q252
                                  obtain rfl : ad251 = ad252 := (by injection e252)
                                  replace hx252_0 := (HB.out.cell (World.block_lt_of_cell? w _ hx252_0)).trans hx252_0
                                  replace hx252_1 := (HB.out.cell (World.block_lt_of_cell? w _ hx252_1)).trans hx252_1
                                  replace hx252_2 := (HB.out.cell (World.block_lt_of_cell? w _ hx252_2)).trans hx252_2
                                  replace hx252_3 := (HB.out.cell (World.block_lt_of_cell? w _ hx252_3)).trans hx252_3
                                  replace hx252_4 := (HB.out.cell (World.block_lt_of_cell? w _ hx252_4)).trans hx252_4
                                  replace hx252_5 := (HB.out.cell (World.block_lt_of_cell? w _ hx252_5)).trans hx252_5
                                  replace hx252_6 := (HB.out.cell (World.block_lt_of_cell? w _ hx252_6)).trans hx252_6
                                  have HR252_1 := Aside0.mk hi252_1
                                  have HC252_1 := Aside0.mk hl252_1
                                  clear hi252_1 hl252_1
                                  have HR252_2 := Aside0.mk hi252_2
                                  have HC252_2 := Aside0.mk hl252_2
                                  clear hi252_2 hl252_2
                                  have HR252_3 := Aside0.mk hi252_3
                                  have HC252_3 := Aside0.mk hl252_3
                                  clear hi252_3 hl252_3
                                  have HR252_4 := Aside0.mk hi252_4
                                  have HC252_4 := Aside0.mk hl252_4
                                  clear hi252_4 hl252_4
                                  have HR252_5 := Aside0.mk hi252_5
                                  have HC252_5 := Aside0.mk hl252_5
                                  clear hi252_5 hl252_5
                                  have HR252_6 := Aside0.mk hi252_6
                                  have HC252_6 := Aside0.mk hl252_6
                                  clear hi252_6 hl252_6
                                  replace p252 := eq_true p252
                                  replace q252 := eq_true q252
                                  have p253 : 0 ≤ (x3_1 : Int) := of_decide_eq_true (by first | (with_reducible assumption) | assumption)
                                  have q253 : x3_1 < (l0.length : Int) := of_decide_eq_true (by first | (with_reducible assumption) | assumption)
                                  obtain ⟨ad253, A253_1, c253_1, A253_2, c253_2, A253_3, c253_3, A253_4, c253_4, A253_5, c253_5, A253_6, c253_6, e253, hx253_0, hx253_1, hx253_2, hx253_3, hx253_4, hx253_5, hx253_6, hl253_1, hi253_1, hl253_2, hi253_2, hl253_3, hi253_3, hl253_4, hi253_4, hl253_5, hi253_5, hl253_6, hi253_6⟩ := at_T32 HR0.out x3_1 p253 q253
                                  obtain rfl : ad251 = ad253 := (by injection e253)
                                  replace hx253_0 := (HB.out.cell (World.block_lt_of_cell? w _ hx253_0)).trans hx253_0
                                  replace hx253_1 := (HB.out.cell (World.block_lt_of_cell? w _ hx253_1)).trans hx253_1
                                  replace hx253_2 := (HB.out.cell (World.block_lt_of_cell? w _ hx253_2)).trans hx253_2
                                  replace hx253_3 := (HB.out.cell (World.block_lt_of_cell? w _ hx253_3)).trans hx253_3
                                  replace hx253_4 := (HB.out.cell (World.block_lt_of_cell? w _ hx253_4)).trans hx253_4
                                  replace hx253_5 := (HB.out.cell (World.block_lt_of_cell? w _ hx253_5)).trans hx253_5
                                  replace hx253_6 := (HB.out.cell (World.block_lt_of_cell? w _ hx253_6)).trans hx253_6
                                  have HR253_1 := Aside0.mk hi253_1
                                  have HC253_1 := Aside0.mk hl253_1
                                  clear hi253_1 hl253_1
                                  have HR253_2 := Aside0.mk hi253_2
                                  have HC253_2 := Aside0.mk hl253_2
                                  clear hi253_2 hl253_2
                                  have HR253_3 := Aside0.mk hi253_3
                                  have HC253_3 := Aside0.mk hl253_3
                                  clear hi253_3 hl253_3
                                  have HR253_4 := Aside0.mk hi253_4
                                  have HC253_4 := Aside0.mk hl253_4
                                  clear hi253_4 hl253_4
                                  have HR253_5 := Aside0.mk hi253_5
                                  have HC253_5 := Aside0.mk hl253_5
                                  clear hi253_5 hl253_5
                                  have HR253_6 := Aside0.mk hi253_6
                                  have HC253_6 := Aside0.mk hl253_6
                                  clear hi253_6 hl253_6
                                  replace p253 := eq_true p253
                                  replace q253 := eq_true q253
                                  have ea_ := Option.some.inj (hx252_1.symm.trans hx253_1)
                                  injection ea_ with ea_ en_ ec_
                                  subst ea_
                                  subst ec_
                                  clear en_
                                  have ea_ := Option.some.inj (hx252_2.symm.trans hx253_2)
                                  injection ea_ with ea_ en_ ec_
                                  subst ea_
                                  subst ec_
                                  clear en_
                                  have ea_ := Option.some.inj (hx252_3.symm.trans hx253_3)
                                  injection ea_ with ea_ en_ ec_
                                  subst ea_
                                  subst ec_
                                  clear en_
                                  have ea_ := Option.some.inj (hx252_4.symm.trans hx253_4)
                                  injection ea_ with ea_ en_ ec_
                                  subst ea_
                                  subst ec_
                                  clear en_
                                  have ea_ := Option.some.inj (hx252_5.symm.trans hx253_5)
                                  injection ea_ with ea_ en_ ec_
                                  subst ea_
                                  subst ec_
                                  clear en_
                                  have ea_ := Option.some.inj (hx252_6.symm.trans hx253_6)
                                  injection ea_ with ea_ en_ ec_
                                  subst ea_
                                  subst ec_
                                  clear en_
                                  have p254 : 0 ≤ (x4_2 : Int) := of_decide_eq_true (by first | (with_reducible assumption) | assumption)
                                  have q254 : x4_2 < (((rd_T32 l0 x3_1).f3).length : Int) := of_decide_eq_true (by first | (with_reducible assumption) | assumption)
                                  obtain ⟨ad254, e254, hx254_0, hx254_1, hx254_2, hx254_3, hx254_4, hx254_5, hx254_6, hx254_7⟩ := at_T42 HR253_3.out x4_2 p254 q254
                                  cases e254
                                  replace hx254_0 := (HB.out.cell (World.block_lt_of_cell? w _ hx254_0)).trans hx254_0
                                  replace hx254_1 := (HB.out.cell (World.block_lt_of_cell? w _ hx254_1)).trans hx254_1
                                  replace hx254_2 := (HB.out.cell (World.block_lt_of_cell? w _ hx254_2)).trans hx254_2
                                  replace hx254_3 := (HB.out.cell (World.block_lt_of_cell? w _ hx254_3)).trans hx254_3
                                  replace hx254_4 := (HB.out.cell (World.block_lt_of_cell? w _ hx254_4)).trans hx254_4
                                  replace hx254_5 := (HB.out.cell (World.block_lt_of_cell? w _ hx254_5)).trans hx254_5
                                  replace hx254_6 := (HB.out.cell (World.block_lt_of_cell? w _ hx254_6)).trans hx254_6
                                  replace hx254_7 := (HB.out.cell (World.block_lt_of_cell? w _ hx254_7)).trans hx254_7
                                  replace p254 := eq_true p254
                                  replace q254 := eq_true q254
                                  go_wp2_with (first | ((with_reducible refine gate_dst (N := 5) rfl ?_); (try (refine gate_guard (by rfl) ?_; dsimp only)); refine box_event ?hg (N := 5) ?hd (cs := #[.string (⟨#[]⟩ : ByteArray), .string (⟨#[]⟩ : ByteArray), .int .u64 0, .int .u64 0, .int .i64 0, .int .i64 0, .int .i64 0, .bool false]) (t := 42) ?hr ?_; (case hd => rfl); (case hg => rfl); (case hr => first | (go_simp; done) | (go_simp; rfl)); intro gb255 hg w26 hbox hb; have n0_ := Aside0.mk (below_step (by repeat (first | (with_reducible first | exact HB.out | apply below_alloc | apply pw_below_drewN | apply below_drew1) | exact HB.out)) hb); have n1_ := Aside0.mk (hbox); have n2_ := Aside0.mk ((by rw [hg]; exact (below_size (by repeat (first | (with_reducible first | exact HB.out | apply below_alloc | apply pw_below_drewN | apply below_drew1) | exact HB.out))) : w.heap.size ≤ gb255)); have n3_ := n2_; clear HB; have HB := n0_; have BK255 := n1_; have GW255 := n2_; have GE255 := n3_; clear n0_ n1_ n2_ n3_; clear hb hbox hg; obtain ⟨hcz27_0, hcz27_1, hcz27_2, hcz27_3, hcz27_4, hcz27_5, hcz27_6, hcz27_7, hfz27_0, hfz27_1, hfz27_2, hfz27_3, hfz27_4, hfz27_5, hfz27_6, hfz27_7⟩ := cells8 BK255.out) | ((with_reducible refine gate_store (t := 42) (p := 5) rfl ?_); refine store_event (t := 42) (p := 5) (v := ?vo_w28) (w1 := ((((((((w26.setCell ⟨gb255, 0, none⟩ (.string ((rd_T42 ((rd_T32 l0 x3_1).f3) x4_2).f0))).setCell ⟨gb255, 1, none⟩ (.string ((rd_T42 ((rd_T32 l0 x3_1).f3) x4_2).f1))).setCell ⟨gb255, 2, none⟩ (.int .u64 ((rd_T42 ((rd_T32 l0 x3_1).f3) x4_2).f2))).setCell ⟨gb255, 3, none⟩ (.int .u64 ((rd_T42 ((rd_T32 l0 x3_1).f3) x4_2).f3))).setCell ⟨gb255, 4, none⟩ (.int .i64 ((rd_T42 ((rd_T32 l0 x3_1).f3) x4_2).f4))).setCell ⟨gb255, 5, none⟩ (.int .i64 ((rd_T42 ((rd_T32 l0 x3_1).f3) x4_2).f5))).setCell ⟨gb255, 6, none⟩ (.int .i64 ((rd_T42 ((rd_T32 l0 x3_1).f3) x4_2).f6))).setCell ⟨gb255, 7, none⟩ (.bool ((rd_T42 ((rd_T32 l0 x3_1).f3) x4_2).f7)))) ?hg ?ho ?hn ?hr ?_; (case ho => rfl); (case hg => rfl); (case hn => rfl); (case hr => first | (go_simp; done) | (go_simp; rfl)); intro w28 hw; have n0_ : Aside0 (w28.heap[gb255]? = some (.cells #[.string ((rd_T42 ((rd_T32 l0 x3_1).f3) x4_2).f0), .string ((rd_T42 ((rd_T32 l0 x3_1).f3) x4_2).f1), .int .u64 ((rd_T42 ((rd_T32 l0 x3_1).f3) x4_2).f2), .int .u64 ((rd_T42 ((rd_T32 l0 x3_1).f3) x4_2).f3), .int .i64 ((rd_T42 ((rd_T32 l0 x3_1).f3) x4_2).f4), .int .i64 ((rd_T42 ((rd_T32 l0 x3_1).f3) x4_2).f5), .int .i64 ((rd_T42 ((rd_T32 l0 x3_1).f3) x4_2).f6), .bool ((rd_T42 ((rd_T32 l0 x3_1).f3) x4_2).f7)] 42 (0, 0))) := ⟨(by rw [hw]; exact (by (with_reducible repeat (first | refine blk_drewN ?_ _ | refine blk_drew ?_ | refine blk_alloc ?_ _)); refine blk_put (cs := #[.string ((rd_T42 ((rd_T32 l0 x3_1).f3) x4_2).f0), .string ((rd_T42 ((rd_T32 l0 x3_1).f3) x4_2).f1), .int .u64 ((rd_T42 ((rd_T32 l0 x3_1).f3) x4_2).f2), .int .u64 ((rd_T42 ((rd_T32 l0 x3_1).f3) x4_2).f3), .int .i64 ((rd_T42 ((rd_T32 l0 x3_1).f3) x4_2).f4), .int .i64 ((rd_T42 ((rd_T32 l0 x3_1).f3) x4_2).f5), .int .i64 ((rd_T42 ((rd_T32 l0 x3_1).f3) x4_2).f6), .bool false]) ?_ 7 _ rfl; (with_reducible repeat (first | refine blk_drewN ?_ _ | refine blk_drew ?_ | refine blk_alloc ?_ _)); refine blk_put (cs := #[.string ((rd_T42 ((rd_T32 l0 x3_1).f3) x4_2).f0), .string ((rd_T42 ((rd_T32 l0 x3_1).f3) x4_2).f1), .int .u64 ((rd_T42 ((rd_T32 l0 x3_1).f3) x4_2).f2), .int .u64 ((rd_T42 ((rd_T32 l0 x3_1).f3) x4_2).f3), .int .i64 ((rd_T42 ((rd_T32 l0 x3_1).f3) x4_2).f4), .int .i64 ((rd_T42 ((rd_T32 l0 x3_1).f3) x4_2).f5), .int .i64 0, .bool false]) ?_ 6 _ rfl; (with_reducible repeat (first | refine blk_drewN ?_ _ | refine blk_drew ?_ | refine blk_alloc ?_ _)); refine blk_put (cs := #[.string ((rd_T42 ((rd_T32 l0 x3_1).f3) x4_2).f0), .string ((rd_T42 ((rd_T32 l0 x3_1).f3) x4_2).f1), .int .u64 ((rd_T42 ((rd_T32 l0 x3_1).f3) x4_2).f2), .int .u64 ((rd_T42 ((rd_T32 l0 x3_1).f3) x4_2).f3), .int .i64 ((rd_T42 ((rd_T32 l0 x3_1).f3) x4_2).f4), .int .i64 0, .int .i64 0, .bool false]) ?_ 5 _ rfl; (with_reducible repeat (first | refine blk_drewN ?_ _ | refine blk_drew ?_ | refine blk_alloc ?_ _)); refine blk_put (cs := #[.string ((rd_T42 ((rd_T32 l0 x3_1).f3) x4_2).f0), .string ((rd_T42 ((rd_T32 l0 x3_1).f3) x4_2).f1), .int .u64 ((rd_T42 ((rd_T32 l0 x3_1).f3) x4_2).f2), .int .u64 ((rd_T42 ((rd_T32 l0 x3_1).f3) x4_2).f3), .int .i64 0, .int .i64 0, .int .i64 0, .bool false]) ?_ 4 _ rfl; (with_reducible repeat (first | refine blk_drewN ?_ _ | refine blk_drew ?_ | refine blk_alloc ?_ _)); refine blk_put (cs := #[.string ((rd_T42 ((rd_T32 l0 x3_1).f3) x4_2).f0), .string ((rd_T42 ((rd_T32 l0 x3_1).f3) x4_2).f1), .int .u64 ((rd_T42 ((rd_T32 l0 x3_1).f3) x4_2).f2), .int .u64 0, .int .i64 0, .int .i64 0, .int .i64 0, .bool false]) ?_ 3 _ rfl; (with_reducible repeat (first | refine blk_drewN ?_ _ | refine blk_drew ?_ | refine blk_alloc ?_ _)); refine blk_put (cs := #[.string ((rd_T42 ((rd_T32 l0 x3_1).f3) x4_2).f0), .string ((rd_T42 ((rd_T32 l0 x3_1).f3) x4_2).f1), .int .u64 0, .int .u64 0, .int .i64 0, .int .i64 0, .int .i64 0, .bool false]) ?_ 2 _ rfl; (with_reducible repeat (first | refine blk_drewN ?_ _ | refine blk_drew ?_ | refine blk_alloc ?_ _)); refine blk_put (cs := #[.string ((rd_T42 ((rd_T32 l0 x3_1).f3) x4_2).f0), .string (⟨#[]⟩ : ByteArray), .int .u64 0, .int .u64 0, .int .i64 0, .int .i64 0, .int .i64 0, .bool false]) ?_ 1 _ rfl; (with_reducible repeat (first | refine blk_drewN ?_ _ | refine blk_drew ?_ | refine blk_alloc ?_ _)); refine blk_put (cs := #[.string (⟨#[]⟩ : ByteArray), .string (⟨#[]⟩ : ByteArray), .int .u64 0, .int .u64 0, .int .i64 0, .int .i64 0, .int .i64 0, .bool false]) ?_ 0 _ rfl; (with_reducible repeat (first | refine blk_drewN ?_ _ | refine blk_drew ?_ | refine blk_alloc ?_ _)); exact BK255.out))⟩; have n1_ : Aside0 (Below w.heap.size w w28) := ⟨(by rw [hw]; exact (by repeat (first | (with_reducible first | exact HB.out | apply below_alloc | apply pw_below_drewN | apply below_drew1 | refine below_set ?_ GE255.out) | exact HB.out)))⟩; clear hw; clear BK255; clear HB; have BK255 := n0_; have HB := n1_; clear n0_ n1_; obtain ⟨hcz29_0, hcz29_1, hcz29_2, hcz29_3, hcz29_4, hcz29_5, hcz29_6, hcz29_7, hfz29_0, hfz29_1, hfz29_2, hfz29_3, hfz29_4, hfz29_5, hfz29_6, hfz29_7⟩ := cells8 BK255.out))
                                  go_ret
                                  exact ⟨by first | rfl | (simp [errW_none, errW_some] <;> rfl) | (simp [*, errW_none, errW_some] <;> rfl), by repeat (first | (with_reducible first | exact HB.out | apply below_alloc | apply pw_below_drewN | apply below_drew1 | refine below_set ?_ GE255.out) | exact HB.out)⟩
                                · rw [if_neg c25] at H
                                  have c25b0 : decide (2 < ((rd_T42 ((rd_T32 l0 x3_1).f3) x4_2).f6)) = false := decide_eq_false c25
                                  clear c25
                                  by_cases c30 : (((rd_T42 ((rd_T32 l0 x3_1).f3) x4_2).f0).size : Int) > 100
                                  · rw [if_pos c30] at H
                                    have c30b0 : decide (100 < (((rd_T42 ((rd_T32 l0 x3_1).f3) x4_2).f0).size : Int)) = true := decide_eq_true c30
                                    have c30b1 : decide (100 < ((rd_T42 ((rd_T32 l0 x3_1).f3) x4_2).f0).size) = true := decide_eq_true (by omega)
                                    clear c30
                                    obtain rfl := Option.some.inj H
                                    have p252 : 0 ≤ (x3_1 : Int) := of_decide_eq_true (by first | (with_reducible assumption) | assumption)
                                    have q252 : x3_1 < (l0.length : Int) := of_decide_eq_true (by first | (with_reducible assumption) | assumption)
                                    obtain ⟨ad252, A252_1, c252_1, A252_2, c252_2, A252_3, c252_3, A252_4, c252_4, A252_5, c252_5, A252_6, c252_6, e252, hx252_0, hx252_1, hx252_2, hx252_3, hx252_4, hx252_5, hx252_6, hl252_1, hi252_1, hl252_2, hi252_2, hl252_3, hi252_3, hl252_4, hi252_4, hl252_5, hi252_5, hl252_6, hi252_6⟩ := at_T32 HR0.out x3_1 p252 q252
                                    obtain rfl : ad251 = ad252 := (by injection e252)
                                    replace hx252_0 := (HB.out.cell (World.block_lt_of_cell? w _ hx252_0)).trans hx252_0
                                    replace hx252_1 := (HB.out.cell (World.block_lt_of_cell? w _ hx252_1)).trans hx252_1
                                    replace hx252_2 := (HB.out.cell (World.block_lt_of_cell? w _ hx252_2)).trans hx252_2
                                    replace hx252_3 := (HB.out.cell (World.block_lt_of_cell? w _ hx252_3)).trans hx252_3
                                    replace hx252_4 := (HB.out.cell (World.block_lt_of_cell? w _ hx252_4)).trans hx252_4
                                    replace hx252_5 := (HB.out.cell (World.block_lt_of_cell? w _ hx252_5)).trans hx252_5
                                    replace hx252_6 := (HB.out.cell (World.block_lt_of_cell? w _ hx252_6)).trans hx252_6
                                    have HR252_1 := Aside0.mk hi252_1
                                    have HC252_1 := Aside0.mk hl252_1
                                    clear hi252_1 hl252_1
                                    have HR252_2 := Aside0.mk hi252_2
                                    have HC252_2 := Aside0.mk hl252_2
                                    clear hi252_2 hl252_2
                                    have HR252_3 := Aside0.mk hi252_3
                                    have HC252_3 := Aside0.mk hl252_3
                                    clear hi252_3 hl252_3
                                    have HR252_4 := Aside0.mk hi252_4
                                    have HC252_4 := Aside0.mk hl252_4
                                    clear hi252_4 hl252_4
                                    have HR252_5 := Aside0.mk hi252_5
                                    have HC252_5 := Aside0.mk hl252_5
                                    clear hi252_5 hl252_5
                                    have HR252_6 := Aside0.mk hi252_6
                                    have HC252_6 := Aside0.mk hl252_6
                                    clear hi252_6 hl252_6
                                    replace p252 := eq_true p252
                                    replace q252 := eq_true q252
                                    have p253 : 0 ≤ (x3_1 : Int) := of_decide_eq_true (by first | (with_reducible assumption) | assumption)
                                    have q253 : x3_1 < (l0.length : Int) := of_decide_eq_true (by first | (with_reducible assumption) | assumption)
                                    obtain ⟨ad253, A253_1, c253_1, A253_2, c253_2, A253_3, c253_3, A253_4, c253_4, A253_5, c253_5, A253_6, c253_6, e253, hx253_0, hx253_1, hx253_2, hx253_3, hx253_4, hx253_5, hx253_6, hl253_1, hi253_1, hl253_2, hi253_2, hl253_3, hi253_3, hl253_4, hi253_4, hl253_5, hi253_5, hl253_6, hi253_6⟩ := at_T32 HR0.out x3_1 p253 q253
                                    obtain rfl : ad251 = ad253 := (by injection e253)
                                    replace hx253_0 := (HB.out.cell (World.block_lt_of_cell? w _ hx253_0)).trans hx253_0
                                    replace hx253_1 := (HB.out.cell (World.block_lt_of_cell? w _ hx253_1)).trans hx253_1
                                    replace hx253_2 := (HB.out.cell (World.block_lt_of_cell? w _ hx253_2)).trans hx253_2
                                    replace hx253_3 := (HB.out.cell (World.block_lt_of_cell? w _ hx253_3)).trans hx253_3
                                    replace hx253_4 := (HB.out.cell (World.block_lt_of_cell? w _ hx253_4)).trans hx253_4
                                    replace hx253_5 := (HB.out.cell (World.block_lt_of_cell? w _ hx253_5)).trans hx253_5
                                    replace hx253_6 := (HB.out.cell (World.block_lt_of_cell? w _ hx253_6)).trans hx253_6
                                    have HR253_1 := Aside0.mk hi253_1
                                    have HC253_1 := Aside0.mk hl253_1
                                    clear hi253_1 hl253_1
                                    have HR253_2 := Aside0.mk hi253_2
                                    have HC253_2 := Aside0.mk hl253_2
                                    clear hi253_2 hl253_2
                                    have HR253_3 := Aside0.mk hi253_3
                                    have HC253_3 := Aside0.mk hl253_3
                                    clear hi253_3 hl253_3
                                    have HR253_4 := Aside0.mk hi253_4
                                    have HC253_4 := Aside0.mk hl253_4
                                    clear hi253_4 hl253_4
                                    have HR253_5 := Aside0.mk hi253_5
                                    have HC253_5 := Aside0.mk hl253_5
                                    clear hi253_5 hl253_5
                                    have HR253_6 := Aside0.mk hi253_6
                                    have HC253_6 := Aside0.mk hl253_6
                                    clear hi253_6 hl253_6
                                    replace p253 := eq_true p253
                                    replace q253 := eq_true q253
                                    have ea_ := Option.some.inj (hx252_1.symm.trans hx253_1)
                                    injection ea_ with ea_ en_ ec_
                                    subst ea_
                                    subst ec_
                                    clear en_
                                    have ea_ := Option.some.inj (hx252_2.symm.trans hx253_2)
                                    injection ea_ with ea_ en_ ec_
                                    subst ea_
                                    subst ec_
                                    clear en_
                                    have ea_ := Option.some.inj (hx252_3.symm.trans hx253_3)
                                    injection ea_ with ea_ en_ ec_
                                    subst ea_
                                    subst ec_
                                    clear en_
                                    have ea_ := Option.some.inj (hx252_4.symm.trans hx253_4)
                                    injection ea_ with ea_ en_ ec_
                                    subst ea_
                                    subst ec_
                                    clear en_
                                    have ea_ := Option.some.inj (hx252_5.symm.trans hx253_5)
                                    injection ea_ with ea_ en_ ec_
                                    subst ea_
                                    subst ec_
                                    clear en_
                                    have ea_ := Option.some.inj (hx252_6.symm.trans hx253_6)
                                    injection ea_ with ea_ en_ ec_
                                    subst ea_
                                    subst ec_
                                    clear en_
                                    have p254 : 0 ≤ (x4_2 : Int) := of_decide_eq_true (by first | (with_reducible assumption) | assumption)
                                    have q254 : x4_2 < (((rd_T32 l0 x3_1).f3).length : Int) := of_decide_eq_true (by first | (with_reducible assumption) | assumption)
                                    obtain ⟨ad254, e254, hx254_0, hx254_1, hx254_2, hx254_3, hx254_4, hx254_5, hx254_6, hx254_7⟩ := at_T42 HR253_3.out x4_2 p254 q254
                                    cases e254
                                    replace hx254_0 := (HB.out.cell (World.block_lt_of_cell? w _ hx254_0)).trans hx254_0
                                    replace hx254_1 := (HB.out.cell (World.block_lt_of_cell? w _ hx254_1)).trans hx254_1
                                    replace hx254_2 := (HB.out.cell (World.block_lt_of_cell? w _ hx254_2)).trans hx254_2
                                    replace hx254_3 := (HB.out.cell (World.block_lt_of_cell? w _ hx254_3)).trans hx254_3
                                    replace hx254_4 := (HB.out.cell (World.block_lt_of_cell? w _ hx254_4)).trans hx254_4
                                    replace hx254_5 := (HB.out.cell (World.block_lt_of_cell? w _ hx254_5)).trans hx254_5
                                    replace hx254_6 := (HB.out.cell (World.block_lt_of_cell? w _ hx254_6)).trans hx254_6
                                    replace hx254_7 := (HB.out.cell (World.block_lt_of_cell? w _ hx254_7)).trans hx254_7
                                    replace p254 := eq_true p254
                                    replace q254 := eq_true q254
                                    go_wp2_with (first | ((with_reducible refine gate_dst (N := 5) rfl ?_); (try (refine gate_guard (by rfl) ?_; dsimp only)); refine box_event ?hg (N := 5) ?hd (cs := #[.string (⟨#[]⟩ : ByteArray), .string (⟨#[]⟩ : ByteArray), .int .u64 0, .int .u64 0, .int .i64 0, .int .i64 0, .int .i64 0, .bool false]) (t := 42) ?hr ?_; (case hd => rfl); (case hg => rfl); (case hr => first | (go_simp; done) | (go_simp; rfl)); intro gb255 hg w31 hbox hb; have n0_ := Aside0.mk (below_step (by repeat (first | (with_reducible first | exact HB.out | apply below_alloc | apply pw_below_drewN | apply below_drew1) | exact HB.out)) hb); have n1_ := Aside0.mk (hbox); have n2_ := Aside0.mk ((by rw [hg]; exact (below_size (by repeat (first | (with_reducible first | exact HB.out | apply below_alloc | apply pw_below_drewN | apply below_drew1) | exact HB.out))) : w.heap.size ≤ gb255)); have n3_ := n2_; clear HB; have HB := n0_; have BK255 := n1_; have GW255 := n2_; have GE255 := n3_; clear n0_ n1_ n2_ n3_; clear hb hbox hg; obtain ⟨hcz32_0, hcz32_1, hcz32_2, hcz32_3, hcz32_4, hcz32_5, hcz32_6, hcz32_7, hfz32_0, hfz32_1, hfz32_2, hfz32_3, hfz32_4, hfz32_5, hfz32_6, hfz32_7⟩ := cells8 BK255.out) | ((with_reducible refine gate_store (t := 42) (p := 5) rfl ?_); refine store_event (t := 42) (p := 5) (v := ?vo_w33) (w1 := ((((((((w31.setCell ⟨gb255, 0, none⟩ (.string ((rd_T42 ((rd_T32 l0 x3_1).f3) x4_2).f0))).setCell ⟨gb255, 1, none⟩ (.string ((rd_T42 ((rd_T32 l0 x3_1).f3) x4_2).f1))).setCell ⟨gb255, 2, none⟩ (.int .u64 ((rd_T42 ((rd_T32 l0 x3_1).f3) x4_2).f2))).setCell ⟨gb255, 3, none⟩ (.int .u64 ((rd_T42 ((rd_T32 l0 x3_1).f3) x4_2).f3))).setCell ⟨gb255, 4, none⟩ (.int .i64 ((rd_T42 ((rd_T32 l0 x3_1).f3) x4_2).f4))).setCell ⟨gb255, 5, none⟩ (.int .i64 ((rd_T42 ((rd_T32 l0 x3_1).f3) x4_2).f5))).setCell ⟨gb255, 6, none⟩ (.int .i64 ((rd_T42 ((rd_T32 l0 x3_1).f3) x4_2).f6))).setCell ⟨gb255, 7, none⟩ (.bool ((rd_T42 ((rd_T32 l0 x3_1).f3) x4_2).f7)))) ?hg ?ho ?hn ?hr ?_; (case ho => rfl); (case hg => rfl); (case hn => rfl); (case hr => first | (go_simp; done) | (go_simp; rfl)); intro w33 hw; have n0_ : Aside0 (w33.heap[gb255]? = some (.cells #[.string ((rd_T42 ((rd_T32 l0 x3_1).f3) x4_2).f0), .string ((rd_T42 ((rd_T32 l0 x3_1).f3) x4_2).f1), .int .u64 ((rd_T42 ((rd_T32 l0 x3_1).f3) x4_2).f2), .int .u64 ((rd_T42 ((rd_T32 l0 x3_1).f3) x4_2).f3), .int .i64 ((rd_T42 ((rd_T32 l0 x3_1).f3) x4_2).f4), .int .i64 ((rd_T42 ((rd_T32 l0 x3_1).f3) x4_2).f5), .int .i64 ((rd_T42 ((rd_T32 l0 x3_1).f3) x4_2).f6), .bool ((rd_T42 ((rd_T32 l0 x3_1).f3) x4_2).f7)] 42 (0, 0))) := ⟨(by rw [hw]; exact (by (with_reducible repeat (first | refine blk_drewN ?_ _ | refine blk_drew ?_ | refine blk_alloc ?_ _)); refine blk_put (cs := #[.string ((rd_T42 ((rd_T32 l0 x3_1).f3) x4_2).f0), .string ((rd_T42 ((rd_T32 l0 x3_1).f3) x4_2).f1), .int .u64 ((rd_T42 ((rd_T32 l0 x3_1).f3) x4_2).f2), .int .u64 ((rd_T42 ((rd_T32 l0 x3_1).f3) x4_2).f3), .int .i64 ((rd_T42 ((rd_T32 l0 x3_1).f3) x4_2).f4), .int .i64 ((rd_T42 ((rd_T32 l0 x3_1).f3) x4_2).f5), .int .i64 ((rd_T42 ((rd_T32 l0 x3_1).f3) x4_2).f6), .bool false]) ?_ 7 _ rfl; (with_reducible repeat (first | refine blk_drewN ?_ _ | refine blk_drew ?_ | refine blk_alloc ?_ _)); refine blk_put (cs := #[.string ((rd_T42 ((rd_T32 l0 x3_1).f3) x4_2).f0), .string ((rd_T42 ((rd_T32 l0 x3_1).f3) x4_2).f1), .int .u64 ((rd_T42 ((rd_T32 l0 x3_1).f3) x4_2).f2), .int .u64 ((rd_T42 ((rd_T32 l0 x3_1).f3) x4_2).f3), .int .i64 ((rd_T42 ((rd_T32 l0 x3_1).f3) x4_2).f4), .int .i64 ((rd_T42 ((rd_T32 l0 x3_1).f3) x4_2).f5), .int .i64 0, .bool false]) ?_ 6 _ rfl; (with_reducible repeat (first | refine blk_drewN ?_ _ | refine blk_drew ?_ | refine blk_alloc ?_ _)); refine blk_put (cs := #[.string ((rd_T42 ((rd_T32 l0 x3_1).f3) x4_2).f0), .string ((rd_T42 ((rd_T32 l0 x3_1).f3) x4_2).f1), .int .u64 ((rd_T42 ((rd_T32 l0 x3_1).f3) x4_2).f2), .int .u64 ((rd_T42 ((rd_T32 l0 x3_1).f3) x4_2).f3), .int .i64 ((rd_T42 ((rd_T32 l0 x3_1).f3) x4_2).f4), .int .i64 0, .int .i64 0, .bool false]) ?_ 5 _ rfl; (with_reducible repeat (first | refine blk_drewN ?_ _ | refine blk_drew ?_ | refine blk_alloc ?_ _)); refine blk_put (cs := #[.string ((rd_T42 ((rd_T32 l0 x3_1).f3) x4_2).f0), .string ((rd_T42 ((rd_T32 l0 x3_1).f3) x4_2).f1), .int .u64 ((rd_T42 ((rd_T32 l0 x3_1).f3) x4_2).f2), .int .u64 ((rd_T42 ((rd_T32 l0 x3_1).f3) x4_2).f3), .int .i64 0, .int .i64 0, .int .i64 0, .bool false]) ?_ 4 _ rfl; (with_reducible repeat (first | refine blk_drewN ?_ _ | refine blk_drew ?_ | refine blk_alloc ?_ _)); refine blk_put (cs := #[.string ((rd_T42 ((rd_T32 l0 x3_1).f3) x4_2).f0), .string ((rd_T42 ((rd_T32 l0 x3_1).f3) x4_2).f1), .int .u64 ((rd_T42 ((rd_T32 l0 x3_1).f3) x4_2).f2), .int .u64 0, .int .i64 0, .int .i64 0, .int .i64 0, .bool false]) ?_ 3 _ rfl; (with_reducible repeat (first | refine blk_drewN ?_ _ | refine blk_drew ?_ | refine blk_alloc ?_ _)); refine blk_put (cs := #[.string ((rd_T42 ((rd_T32 l0 x3_1).f3) x4_2).f0), .string ((rd_T42 ((rd_T32 l0 x3_1).f3) x4_2).f1), .int .u64 0, .int .u64 0, .int .i64 0, .int .i64 0, .int .i64 0, .bool false]) ?_ 2 _ rfl; (with_reducible repeat (first | refine blk_drewN ?_ _ | refine blk_drew ?_ | refine blk_alloc ?_ _)); refine blk_put (cs := #[.string ((rd_T42 ((rd_T32 l0 x3_1).f3) x4_2).f0), .string (⟨#[]⟩ : ByteArray), .int .u64 0, .int .u64 0, .int .i64 0, .int .i64 0, .int .i64 0, .bool false]) ?_ 1 _ rfl; (with_reducible repeat (first | refine blk_drewN ?_ _ | refine blk_drew ?_ | refine blk_alloc ?_ _)); refine blk_put (cs := #[.string (⟨#[]⟩ : ByteArray), .string (⟨#[]⟩ : ByteArray), .int .u64 0, .int .u64 0, .int .i64 0, .int .i64 0, .int .i64 0, .bool false]) ?_ 0 _ rfl; (with_reducible repeat (first | refine blk_drewN ?_ _ | refine blk_drew ?_ | refine blk_alloc ?_ _)); exact BK255.out))⟩; have n1_ : Aside0 (Below w.heap.size w w33) := ⟨(by rw [hw]; exact (by repeat (first | (with_reducible first | exact HB.out | apply below_alloc | apply pw_below_drewN | apply below_drew1 | refine below_set ?_ GE255.out) | exact HB.out)))⟩; clear hw; clear BK255; clear HB; have BK255 := n0_; have HB := n1_; clear n0_ n1_; obtain ⟨hcz34_0, hcz34_1, hcz34_2, hcz34_3, hcz34_4, hcz34_5, hcz34_6, hcz34_7, hfz34_0, hfz34_1, hfz34_2, hfz34_3, hfz34_4, hfz34_5, hfz34_6, hfz34_7⟩ := cells8 BK255.out))
                                    go_ret
                                    exact ⟨by first | rfl | (simp [errW_none, errW_some] <;> rfl) | (simp [*, errW_none, errW_some] <;> rfl), by repeat (first | (with_reducible first | exact HB.out | apply below_alloc | apply pw_below_drewN | apply below_drew1 | refine below_set ?_ GE255.out) | exact HB.out)⟩
                                  · rw [if_neg c30] at H
                                    have c30b0 : decide (100 < (((rd_T42 ((rd_T32 l0 x3_1).f3) x4_2).f0).size : Int)) = false := decide_eq_false c30
                                    have c30b1 : decide (100 < ((rd_T42 ((rd_T32 l0 x3_1).f3) x4_2).f0).size) = false := decide_eq_false (by omega)
                                    clear c30
                                    have H' := Aside0.mk H
                                    clear H
                                    have p252 : 0 ≤ (x3_1 : Int) := of_decide_eq_true (by first | (with_reducible assumption) | assumption)
                                    have q252 : x3_1 < (l0.length : Int) := of_decide_eq_true (by first | (with_reducible assumption) | assumption)
                                    obtain ⟨ad252, A252_1, c252_1, A252_2, c252_2, A252_3, c252_3, A252_4, c252_4, A252_5, c252_5, A252_6, c252_6, e252, hx252_0, hx252_1, hx252_2, hx252_3, hx252_4, hx252_5, hx252_6, hl252_1, hi252_1, hl252_2, hi252_2, hl252_3, hi252_3, hl252_4, hi252_4, hl252_5, hi252_5, hl252_6, hi252_6⟩ := at_T32 HR0.out x3_1 p252 q252
                                    obtain rfl : ad251 = ad252 := (by injection e252)
                                    replace hx252_0 := (HB.out.cell (World.block_lt_of_cell? w _ hx252_0)).trans hx252_0
                                    replace hx252_1 := (HB.out.cell (World.block_lt_of_cell? w _ hx252_1)).trans hx252_1
                                    replace hx252_2 := (HB.out.cell (World.block_lt_of_cell? w _ hx252_2)).trans hx252_2
                                    replace hx252_3 := (HB.out.cell (World.block_lt_of_cell? w _ hx252_3)).trans hx252_3
                                    replace hx252_4 := (HB.out.cell (World.block_lt_of_cell? w _ hx252_4)).trans hx252_4
                                    replace hx252_5 := (HB.out.cell (World.block_lt_of_cell? w _ hx252_5)).trans hx252_5
                                    replace hx252_6 := (HB.out.cell (World.block_lt_of_cell? w _ hx252_6)).trans hx252_6
                                    have HR252_1 := Aside0.mk hi252_1
                                    have HC252_1 := Aside0.mk hl252_1
                                    clear hi252_1 hl252_1
                                    have HR252_2 := Aside0.mk hi252_2
                                    have HC252_2 := Aside0.mk hl252_2
                                    clear hi252_2 hl252_2
                                    have HR252_3 := Aside0.mk hi252_3
                                    have HC252_3 := Aside0.mk hl252_3
                                    clear hi252_3 hl252_3
                                    have HR252_4 := Aside0.mk hi252_4
                                    have HC252_4 := Aside0.mk hl252_4
                                    clear hi252_4 hl252_4
                                    have HR252_5 := Aside0.mk hi252_5
                                    have HC252_5 := Aside0.mk hl252_5
                                    clear hi252_5 hl252_5
                                    have HR252_6 := Aside0.mk hi252_6
                                    have HC252_6 := Aside0.mk hl252_6
                                    clear hi252_6 hl252_6
                                    replace p252 := eq_true p252
                                    replace q252 := eq_true q252
                                    have p253 : 0 ≤ (x3_1 : Int) := of_decide_eq_true (by first | (with_reducible assumption) | assumption)
                                    have q253 : x3_1 < (l0.length : Int) := of_decide_eq_true (by first | (with_reducible assumption) | assumption)
                                    obtain ⟨ad253, A253_1, c253_1, A253_2, c253_2, A253_3, c253_3, A253_4, c253_4, A253_5, c253_5, A253_6, c253_6, e253, hx253_0, hx253_1, hx253_2, hx253_3, hx253_4, hx253_5, hx253_6, hl253_1, hi253_1, hl253_2, hi253_2, hl253_3, hi253_3, hl253_4, hi253_4, hl253_5, hi253_5, hl253_6, hi253_6⟩ := at_T32 HR0.out x3_1 p253 q253
                                    obtain rfl : ad251 = ad253 := (by injection e253)
                                    replace hx253_0 := (HB.out.cell (World.block_lt_of_cell? w _ hx253_0)).trans hx253_0
                                    replace hx253_1 := (HB.out.cell (World.block_lt_of_cell? w _ hx253_1)).trans hx253_1
                                    replace hx253_2 := (HB.out.cell (World.block_lt_of_cell? w _ hx253_2)).trans hx253_2
                                    replace hx253_3 := (HB.out.cell (World.block_lt_of_cell? w _ hx253_3)).trans hx253_3
                                    replace hx253_4 := (HB.out.cell (World.block_lt_of_cell? w _ hx253_4)).trans hx253_4
                                    replace hx253_5 := (HB.out.cell (World.block_lt_of_cell? w _ hx253_5)).trans hx253_5
                                    replace hx253_6 := (HB.out.cell (World.block_lt_of_cell? w _ hx253_6)).trans hx253_6
                                    have HR253_1 := Aside0.mk hi253_1
                                    have HC253_1 := Aside0.mk hl253_1
                                    clear hi253_1 hl253_1
                                    have HR253_2 := Aside0.mk hi253_2
                                    have HC253_2 := Aside0.mk hl253_2
                                    clear hi253_2 hl253_2
                                    have HR253_3 := Aside0.mk hi253_3
                                    have HC253_3 := Aside0.mk hl253_3
                                    clear hi253_3 hl253_3
                                    have HR253_4 := Aside0.mk hi253_4
                                    have HC253_4 := Aside0.mk hl253_4
                                    clear hi253_4 hl253_4
                                    have HR253_5 := Aside0.mk hi253_5
                                    have HC253_5 := Aside0.mk hl253_5
                                    clear hi253_5 hl253_5
                                    have HR253_6 := Aside0.mk hi253_6
                                    have HC253_6 := Aside0.mk hl253_6
                                    clear hi253_6 hl253_6
                                    replace p253 := eq_true p253
                                    replace q253 := eq_true q253
                                    have ea_ := Option.some.inj (hx252_1.symm.trans hx253_1)
                                    injection ea_ with ea_ en_ ec_
                                    subst ea_
                                    subst ec_
                                    clear en_
                                    have ea_ := Option.some.inj (hx252_2.symm.trans hx253_2)
                                    injection ea_ with ea_ en_ ec_
                                    subst ea_
                                    subst ec_
                                    clear en_
                                    have ea_ := Option.some.inj (hx252_3.symm.trans hx253_3)
                                    injection ea_ with ea_ en_ ec_
                                    subst ea_
                                    subst ec_
                                    clear en_
                                    have ea_ := Option.some.inj (hx252_4.symm.trans hx253_4)
                                    injection ea_ with ea_ en_ ec_
                                    subst ea_
                                    subst ec_
                                    clear en_
                                    have ea_ := Option.some.inj (hx252_5.symm.trans hx253_5)
                                    injection ea_ with ea_ en_ ec_
                                    subst ea_
                                    subst ec_
                                    clear en_
                                    have ea_ := Option.some.inj (hx252_6.symm.trans hx253_6)
                                    injection ea_ with ea_ en_ ec_
                                    subst ea_
                                    subst ec_
                                    clear en_
                                    have p254 : 0 ≤ (x4_2 : Int) := of_decide_eq_true (by first | (with_reducible assumption) | assumption)
                                    have q254 : x4_2 < (((rd_T32 l0 x3_1).f3).length : Int) := of_decide_eq_true (by first | (with_reducible assumption) | assumption)
                                    obtain ⟨ad254, e254, hx254_0, hx254_1, hx254_2, hx254_3, hx254_4, hx254_5, hx254_6, hx254_7⟩ := at_T42 HR253_3.out x4_2 p254 q254
                                    cases e254
                                    replace hx254_0 := (HB.out.cell (World.block_lt_of_cell? w _ hx254_0)).trans hx254_0
                                    replace hx254_1 := (HB.out.cell (World.block_lt_of_cell? w _ hx254_1)).trans hx254_1
                                    replace hx254_2 := (HB.out.cell (World.block_lt_of_cell? w _ hx254_2)).trans hx254_2
                                    replace hx254_3 := (HB.out.cell (World.block_lt_of_cell? w _ hx254_3)).trans hx254_3
                                    replace hx254_4 := (HB.out.cell (World.block_lt_of_cell? w _ hx254_4)).trans hx254_4
                                    replace hx254_5 := (HB.out.cell (World.block_lt_of_cell? w _ hx254_5)).trans hx254_5
                                    replace hx254_6 := (HB.out.cell (World.block_lt_of_cell? w _ hx254_6)).trans hx254_6
                                    replace hx254_7 := (HB.out.cell (World.block_lt_of_cell? w _ hx254_7)).trans hx254_7
                                    replace p254 := eq_true p254
                                    replace q254 := eq_true q254
                                    go_wp2_with (first | ((with_reducible refine gate_dst (N := 5) rfl ?_); (try (refine gate_guard (by rfl) ?_; dsimp only)); refine box_event ?hg (N := 5) ?hd (cs := #[.string (⟨#[]⟩ : ByteArray), .string (⟨#[]⟩ : ByteArray), .int .u64 0, .int .u64 0, .int .i64 0, .int .i64 0, .int .i64 0, .bool false]) (t := 42) ?hr ?_; (case hd => rfl); (case hg => rfl); (case hr => first | (go_simp; done) | (go_simp; rfl)); intro gb255 hg w35 hbox hb; have n0_ := Aside0.mk (below_step (by repeat (first | (with_reducible first | exact HB.out | apply below_alloc | apply pw_below_drewN | apply below_drew1) | exact HB.out)) hb); have n1_ := Aside0.mk (hbox); have n2_ := Aside0.mk ((by rw [hg]; exact (below_size (by repeat (first | (with_reducible first | exact HB.out | apply below_alloc | apply pw_below_drewN | apply below_drew1) | exact HB.out))) : w.heap.size ≤ gb255)); have n3_ := n2_; clear HB; have HB := n0_; have BK255 := n1_; have GW255 := n2_; have GE255 := n3_; clear n0_ n1_ n2_ n3_; clear hb hbox hg; obtain ⟨hcz36_0, hcz36_1, hcz36_2, hcz36_3, hcz36_4, hcz36_5, hcz36_6, hcz36_7, hfz36_0, hfz36_1, hfz36_2, hfz36_3, hfz36_4, hfz36_5, hfz36_6, hfz36_7⟩ := cells8 BK255.out) | ((with_reducible refine gate_store (t := 42) (p := 5) rfl ?_); refine store_event (t := 42) (p := 5) (v := ?vo_w37) (w1 := ((((((((w35.setCell ⟨gb255, 0, none⟩ (.string ((rd_T42 ((rd_T32 l0 x3_1).f3) x4_2).f0))).setCell ⟨gb255, 1, none⟩ (.string ((rd_T42 ((rd_T32 l0 x3_1).f3) x4_2).f1))).setCell ⟨gb255, 2, none⟩ (.int .u64 ((rd_T42 ((rd_T32 l0 x3_1).f3) x4_2).f2))).setCell ⟨gb255, 3, none⟩ (.int .u64 ((rd_T42 ((rd_T32 l0 x3_1).f3) x4_2).f3))).setCell ⟨gb255, 4, none⟩ (.int .i64 ((rd_T42 ((rd_T32 l0 x3_1).f3) x4_2).f4))).setCell ⟨gb255, 5, none⟩ (.int .i64 ((rd_T42 ((rd_T32 l0 x3_1).f3) x4_2).f5))).setCell ⟨gb255, 6, none⟩ (.int .i64 ((rd_T42 ((rd_T32 l0 x3_1).f3) x4_2).f6))).setCell ⟨gb255, 7, none⟩ (.bool ((rd_T42 ((rd_T32 l0 x3_1).f3) x4_2).f7)))) ?hg ?ho ?hn ?hr ?_; (case ho => rfl); (case hg => rfl); (case hn => rfl); (case hr => first | (go_simp; done) | (go_simp; rfl)); intro w37 hw; have n0_ : Aside0 (w37.heap[gb255]? = some (.cells #[.string ((rd_T42 ((rd_T32 l0 x3_1).f3) x4_2).f0), .string ((rd_T42 ((rd_T32 l0 x3_1).f3) x4_2).f1), .int .u64 ((rd_T42 ((rd_T32 l0 x3_1).f3) x4_2).f2), .int .u64 ((rd_T42 ((rd_T32 l0 x3_1).f3) x4_2).f3), .int .i64 ((rd_T42 ((rd_T32 l0 x3_1).f3) x4_2).f4), .int .i64 ((rd_T42 ((rd_T32 l0 x3_1).f3) x4_2).f5), .int .i64 ((rd_T42 ((rd_T32 l0 x3_1).f3) x4_2).f6), .bool ((rd_T42 ((rd_T32 l0 x3_1).f3) x4_2).f7)] 42 (0, 0))) := ⟨(by rw [hw]; exact (by (with_reducible repeat (first | refine blk_drewN ?_ _ | refine blk_drew ?_ | refine blk_alloc ?_ _)); refine blk_put (cs := #[.string ((rd_T42 ((rd_T32 l0 x3_1).f3) x4_2).f0), .string ((rd_T42 ((rd_T32 l0 x3_1).f3) x4_2).f1), .int .u64 ((rd_T42 ((rd_T32 l0 x3_1).f3) x4_2).f2), .int .u64 ((rd_T42 ((rd_T32 l0 x3_1).f3) x4_2).f3), .int .i64 ((rd_T42 ((rd_T32 l0 x3_1).f3) x4_2).f4), .int .i64 ((rd_T42 ((rd_T32 l0 x3_1).f3) x4_2).f5), .int .i64 ((rd_T42 ((rd_T32 l0 x3_1).f3) x4_2).f6), .bool false]) ?_ 7 _ rfl; (with_reducible repeat (first | refine blk_drewN ?_ _ | refine blk_drew ?_ | refine blk_alloc ?_ _)); refine blk_put (cs := #[.string ((rd_T42 ((rd_T32 l0 x3_1).f3) x4_2).f0), .string ((rd_T42 ((rd_T32 l0 x3_1).f3) x4_2).f1), .int .u64 ((rd_T42 ((rd_T32 l0 x3_1).f3) x4_2).f2), .int .u64 ((rd_T42 ((rd_T32 l0 x3_1).f3) x4_2).f3), .int .i64 ((rd_T42 ((rd_T32 l0 x3_1).f3) x4_2).f4), .int .i64 ((rd_T42 ((rd_T32 l0 x3_1).f3) x4_2).f5), .int .i64 0, .bool false]) ?_ 6 _ rfl; (with_reducible repeat (first | refine blk_drewN ?_ _ | refine blk_drew ?_ | refine blk_alloc ?_ _)); refine blk_put (cs := #[.string ((rd_T42 ((rd_T32 l0 x3_1).f3) x4_2).f0), .string ((rd_T42 ((rd_T32 l0 x3_1).f3) x4_2).f1), .int .u64 ((rd_T42 ((rd_T32 l0 x3_1).f3) x4_2).f2), .int .u64 ((rd_T42 ((rd_T32 l0 x3_1).f3) x4_2).f3), .int .i64 ((rd_T42 ((rd_T32 l0 x3_1).f3) x4_2).f4), .int .i64 0, .int .i64 0, .bool false]) ?_ 5 _ rfl; (with_reducible repeat (first | refine blk_drewN ?_ _ | refine blk_drew ?_ | refine blk_alloc ?_ _)); refine blk_put (cs := #[.string ((rd_T42 ((rd_T32 l0 x3_1).f3) x4_2).f0), .string ((rd_T42 ((rd_T32 l0 x3_1).f3) x4_2).f1), .int .u64 ((rd_T42 ((rd_T32 l0 x3_1).f3) x4_2).f2), .int .u64 ((rd_T42 ((rd_T32 l0 x3_1).f3) x4_2).f3), .int .i64 0, .int .i64 0, .int .i64 0, .bool false]) ?_ 4 _ rfl; (with_reducible repeat (first | refine blk_drewN ?_ _ | refine blk_drew ?_ | refine blk_alloc ?_ _)); refine blk_put (cs := #[.string ((rd_T42 ((rd_T32 l0 x3_1).f3) x4_2).f0), .string ((rd_T42 ((rd_T32 l0 x3_1).f3) x4_2).f1), .int .u64 ((rd_T42 ((rd_T32 l0 x3_1).f3) x4_2).f2), .int .u64 0, .int .i64 0, .int .i64 0, .int .i64 0, .bool false]) ?_ 3 _ rfl; (with_reducible repeat (first | refine blk_drewN ?_ _ | refine blk_drew ?_ | refine blk_alloc ?_ _)); refine blk_put (cs := #[.string ((rd_T42 ((rd_T32 l0 x3_1).f3) x4_2).f0), .string ((rd_T42 ((rd_T32 l0 x3_1).f3) x4_2).f1), .int .u64 0, .int .u64 0, .int .i64 0, .int .i64 0, .int .i64 0, .bool false]) ?_ 2 _ rfl; (with_reducible repeat (first | refine blk_drewN ?_ _ | refine blk_drew ?_ | refine blk_alloc ?_ _)); refine blk_put (cs := #[.string ((rd_T42 ((rd_T32 l0 x3_1).f3) x4_2).f0), .string (⟨#[]⟩ : ByteArray), .int .u64 0, .int .u64 0, .int .i64 0, .int .i64 0, .int .i64 0, .bool false]) ?_ 1 _ rfl; (with_reducible repeat (first | refine blk_drewN ?_ _ | refine blk_drew ?_ | refine blk_alloc ?_ _)); refine blk_put (cs := #[.string (⟨#[]⟩ : ByteArray), .string (⟨#[]⟩ : ByteArray), .int .u64 0, .int .u64 0, .int .i64 0, .int .i64 0, .int .i64 0, .bool false]) ?_ 0 _ rfl; (with_reducible repeat (first | refine blk_drewN ?_ _ | refine blk_drew ?_ | refine blk_alloc ?_ _)); exact BK255.out))⟩; have n1_ : Aside0 (Below w.heap.size w w37) := ⟨(by rw [hw]; exact (by repeat (first | (with_reducible first | exact HB.out | apply below_alloc | apply pw_below_drewN | apply below_drew1 | refine below_set ?_ GE255.out) | exact HB.out)))⟩; clear hw; clear BK255; clear HB; have BK255 := n0_; have HB := n1_; clear n0_ n1_; obtain ⟨hcz38_0, hcz38_1, hcz38_2, hcz38_3, hcz38_4, hcz38_5, hcz38_6, hcz38_7, hfz38_0, hfz38_1, hfz38_2, hfz38_3, hfz38_4, hfz38_5, hfz38_6, hfz38_7⟩ := cells8 BK255.out))
                                    go_roundg k2
                                    case measure => have := HK1.out; have := HK2.out; omega
                                    case rel => exact ⟨(wrap64 (x4_2 + 1)), (by first | rfl | (simp; done) | (simp [*]; done)), H', ⟨by have := HK1.out; have := HK2.out; omega⟩, ⟨by repeat (first | (with_reducible first | exact HB.out | apply below_alloc | apply pw_below_drewN | apply below_drew1 | refine below_set ?_ GE255.out) | exact HB.out)⟩⟩
                        · rw [if_neg c9] at H
                          exact absurd H (by simp)
                      · rw [if_neg c8] at H
                        have c8b0 : decide (x4_2 < (((rd_T32 l0 x3_1).f3).length : Int)) = false := decide_eq_false c8
                        clear c8
                        have H' := Aside0.mk H
                        clear H
                        have p252 : 0 ≤ (x3_1 : Int) := of_decide_eq_true (by first | (with_reducible assumption) | assumption)
                        have q252 : x3_1 < (l0.length : Int) := of_decide_eq_true (by first | (with_reducible assumption) | assumption)
                        obtain ⟨ad252, A252_1, c252_1, A252_2, c252_2, A252_3, c252_3, A252_4, c252_4, A252_5, c252_5, A252_6, c252_6, e252, hx252_0, hx252_1, hx252_2, hx252_3, hx252_4, hx252_5, hx252_6, hl252_1, hi252_1, hl252_2, hi252_2, hl252_3, hi252_3, hl252_4, hi252_4, hl252_5, hi252_5, hl252_6, hi252_6⟩ := at_T32 HR0.out x3_1 p252 q252
                        obtain rfl : ad251 = ad252 := (by injection e252)
                        replace hx252_0 := (HB.out.cell (World.block_lt_of_cell? w _ hx252_0)).trans hx252_0
                        replace hx252_1 := (HB.out.cell (World.block_lt_of_cell? w _ hx252_1)).trans hx252_1
                        replace hx252_2 := (HB.out.cell (World.block_lt_of_cell? w _ hx252_2)).trans hx252_2
                        replace hx252_3 := (HB.out.cell (World.block_lt_of_cell? w _ hx252_3)).trans hx252_3
                        replace hx252_4 := (HB.out.cell (World.block_lt_of_cell? w _ hx252_4)).trans hx252_4
                        replace hx252_5 := (HB.out.cell (World.block_lt_of_cell? w _ hx252_5)).trans hx252_5
                        replace hx252_6 := (HB.out.cell (World.block_lt_of_cell? w _ hx252_6)).trans hx252_6
                        have HR252_1 := Aside0.mk hi252_1
                        have HC252_1 := Aside0.mk hl252_1
                        clear hi252_1 hl252_1
                        have HR252_2 := Aside0.mk hi252_2
                        have HC252_2 := Aside0.mk hl252_2
                        clear hi252_2 hl252_2
                        have HR252_3 := Aside0.mk hi252_3
                        have HC252_3 := Aside0.mk hl252_3
                        clear hi252_3 hl252_3
                        have HR252_4 := Aside0.mk hi252_4
                        have HC252_4 := Aside0.mk hl252_4
                        clear hi252_4 hl252_4
                        have HR252_5 := Aside0.mk hi252_5
                        have HC252_5 := Aside0.mk hl252_5
                        clear hi252_5 hl252_5
                        have HR252_6 := Aside0.mk hi252_6
                        have HC252_6 := Aside0.mk hl252_6
                        clear hi252_6 hl252_6
                        replace p252 := eq_true p252
                        replace q252 := eq_true q252
                        go_wp2
                        go_roundg k2
                        case measure => have := HK1.out; have := HK2.out; omega
                        case rel => exact ⟨(wrap64 (x3_1 + 1)), (by first | rfl | (simp; done) | (simp [*]; done)), H', ⟨by have := HK1.out; have := HK2.out; omega⟩, ⟨by repeat (first | (with_reducible first | exact HB.out | apply below_alloc | apply pw_below_drewN | apply below_drew1) | exact HB.out)⟩⟩
                    · rw [if_neg c7] at H
                      exact absurd H (by simp)
                  · rw [if_neg c6] at H
                    exact absurd H (by simp)
          · rw [if_neg c4] at H
            exact absurd H (by simp)
        · rw [if_neg c3] at H
          have c3b0 : decide (x3_1 < (l0.length : Int)) = false := decide_eq_false c3
          clear c3
          obtain rfl := Option.some.inj H
          go_wp2
          go_ret
          exact ⟨by first | rfl | (simp [errW_none, errW_some] <;> rfl) | (simp [*, errW_none, errW_some] <;> rfl), by repeat (first | (with_reducible first | exact HB.out | apply below_alloc | apply pw_below_drewN | apply below_drew1) | exact HB.out)⟩

end Go.Proofs.Ytdgmkmjmddjcfaa.P
