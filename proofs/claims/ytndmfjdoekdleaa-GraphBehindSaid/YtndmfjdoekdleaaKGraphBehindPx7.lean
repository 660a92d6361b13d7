/- What functions of the program, and of its laws, give, each proved of its code by a walk; no condition. -/
import Derived.Test.YtndmfjdoekdleaaKGraphBehindPx0
import Derived.Test.YtndmfjdoekdleaaKGraphBehindPx1
import Derived.Test.YtndmfjdoekdleaaKGraphBehindPx2
import Derived.Test.YtndmfjdoekdleaaKGraphBehindPx3
import Derived.Test.YtndmfjdoekdleaaKGraphBehindPx6
namespace Go.Proofs.Ytndmfjdoekdleaa.P
open Go.RowKit Go.Proofs.YtndmfjdoekdleaaW.PrintWords Go.Proofs.YtndmfjdoekdleaaW.PrintLast Go.Proofs.YtndmfjdoekdleaaW.PrintMore
attribute [local go_sem] max2_int min2_int max_two min_two max_three min_three max_four min_four   -- for this text's walks alone
set_option linter.unusedVariables false
set_option linter.unusedSimpArgs false

def graph_End.f (k : Nat) (l0 : List (S29)) (l1 : List Int) : Option (List Int) := (graph_Begin.f l0 l1).bind fun t325 => ((slices_Reverse_int_int.f k t325).bind fun t328 => (some t328))
theorem graph_End.mono : ∀ a0 a1 k, LeO (graph_End.f k a0 a1) (graph_End.f (k + 1) a0 a1) := by
  intro a0 a1 k
  unfold graph_End.f
  repeat' first
      | (with_reducible exact slices_Reverse_int_int.mono _ _)
      | (with_reducible exact LeO.refl _)
      | (with_reducible exact LeO.none _)
      | (with_reducible refine LeO.ite ?_ ?_)
      | (with_reducible refine LeO.bind ?_ (fun _ => ?_))
      | exact slices_Reverse_int_int.mono _ _
      | exact LeO.none _
      | refine LeO.ite ?_ ?_
      | refine LeO.bind ?_ (fun _ => ?_)
set_option maxHeartbeats 8000000 in
set_option maxRecDepth 100000 in
theorem graph_End.calls (k : Nat) (A0 : Option Addr) (c0 : Nat) (l0 : List (S29)) (A1 : Option Addr) (c1 : Nat) (l1 : List Int) (r : List Int) (w : World) (hr0 : Kd.C k29 w A0 l0.length l0) (hc0 : l0.length ≤ c0) (hr1 : Kd.C (Kd.int .i64) w A1 l1.length l1) (hc1 : l1.length ≤ c1) (h : graph_End.f k l0 l1 = some r) :
    Calls Try.prog 14 #[.slice A0 l0.length c0, .slice A1 l1.length c1] w fun e w' => ∃ v0_ : Value, e = .returned (v0_) ∧ Kd.R (Kd.int .i64) 3 w' w.heap.size (fun _ => True) v0_ r ∧ Below w.heap.size w w' := by
  have HR0 := Aside0.mk hr0
  have HC0 := Aside0.mk hc0
  clear hr0 hc0
  have HR1 := Aside0.mk hr1
  have HC1 := Aside0.mk hc1
  clear hr1 hc1
  have HB := Aside0.mk (Below.refl w.heap.size w)
  have H : ((graph_Begin.f l0 l1).bind fun t325 => ((slices_Reverse_int_int.f k t325).bind fun t328 => (some t328))) = some r := h
  clear h
  replace H := Option.bind_eq_some_iff.mp H
  obtain ⟨t325, A30, H⟩ := H
  replace H : ((slices_Reverse_int_int.f k t325).bind fun t328 => (some t328)) = some r := H
  have A3 := Aside0.mk A30
  clear A30
  replace H := Option.bind_eq_some_iff.mp H
  obtain ⟨t328, A40, H⟩ := H
  replace H : (some t328) = some r := H
  have A4 := Aside0.mk A40
  clear A40
  obtain rfl := Option.some.inj H
  go_enter Try.func14, Try.ntmps14
  go_wp2_with (first | ((with_reducible refine gate_dst (N := 8) rfl ?_); (with_reducible refine gate_callee (f := 11) rfl ?_); refine goesL_ (some 8) rfl rfl Try.func11 (by kernel_rfl) rfl #[.slice A0 l0.length c0, .slice A1 l1.length c1] rfl (by (try simp only [List.map_toArray, List.map_cons, List.map_nil]); first | done | rfl | (simp only [List.length_drop, List.length_take]; rfl)) ?_; (with_reducible refine (graph_Begin.calls _ _ l0 _ _ l1 t325 _ ?side1 ?side2 ?side3 ?side4 A3.out).mono ?_); (case side1 => repeat (first | exact HR0.out | (with_reducible refine Kd.C_alloc ?_ _) | (with_reducible refine Kd.C_drewN ?_ _) | (with_reducible refine Kd.C_drew ?_))); (case side2 => exact HC0.out); (case side3 => repeat (first | exact HR1.out | (with_reducible refine Kd.C_alloc ?_ _) | (with_reducible refine Kd.C_drewN ?_ _) | (with_reducible refine Kd.C_drew ?_))); (case side4 => exact HC1.out); rintro e w5 ⟨v326, rfl, ho0, hb⟩; refine ⟨_, rfl, ?_⟩; have n0_ := Aside0.mk (Kd.R_lower ho0 (below_size (by repeat (first | (with_reducible first | exact HB.out | apply below_alloc | apply pw_below_drewN | apply below_drew1) | exact HB.out)))); have n1_ := Aside0.mk (below_step (by repeat (first | (with_reducible first | exact HB.out | apply below_alloc | apply pw_below_drewN | apply below_drew1) | exact HB.out)) hb); clear HB; have HO327 := n0_; have HB := n1_; clear n0_ n1_; (try clear hb); (try clear hb2); (try clear hk); (try clear hi); (try clear ho0); obtain ⟨Ao6, co6, eo6⟩ := Kd.R_slice HO327.out; subst eo6) | ((with_reducible refine gate_dst (N := 10) rfl ?_); (with_reducible refine gate_callee (f := 26) rfl ?_); refine goesL_ (some 10) rfl rfl Try.func26 (by kernel_rfl) rfl #[.slice Ao6 t325.length co6] rfl (by (try simp only [List.map_toArray, List.map_cons, List.map_nil]); first | done | rfl | (simp only [List.length_drop, List.length_take]; rfl)) ?_; (with_reducible refine (slices_Reverse_int_int.calls k (fun k_ => some k_ = (.slice Ao6 t325.length co6 : Value).ownBlock) (.slice Ao6 t325.length co6) t325 t328 w _ ?side1 ?side2 A4.out).mono ?_); (case side1 => repeat (first | (with_reducible first | exact HB.out | apply below_alloc | apply pw_below_drewN | apply below_drew1) | exact HB.out)); (case side2 => exact Kd.R_tight rfl HO327.out); rintro e w7 ⟨rfl, hy0, hb, hkp⟩; refine ⟨_, rfl, ?_⟩; have n0_ := Aside0.mk (Kd.R_reok rfl hy0 (fun k_ e_ => HO327.out.1 k_ e_)); have n1_ := Aside0.mk (hb); clear HO327; clear HB; have HO327 := n0_; have HB := n1_; clear n0_ n1_; (try clear hb); (try clear hkp); (try clear hy0)))
  go_ret
  exact ⟨_, by first | rfl | (simp [errW_none, errW_some] <;> rfl) | (simp [*, errW_none, errW_some] <;> rfl), by (with_reducible repeat (first | apply Kd.R_alloc | apply Kd.R_drewN | apply Kd.R_drew)); exact HO327.out, by repeat (first | (with_reducible first | exact HB.out | apply below_alloc | apply pw_below_drewN | apply below_drew1) | exact HB.out)⟩

mutual
def curtilagelaw13_GraphBegins.j0 : Nat → List (S29) → List Int → Bool → Bool → Option (Bool)
  | 0, _, _, _, _ => none
  | k + 1, x0, x1, x5, x24 => if x24 = true then (some x5) else ((graph_Begin.f x0 x1).bind fun t332 => ((graph_End.f k x0 x1).bind fun t335 => ((curtilageref13_Begin.f x0 x1).bind fun t338 => (if (t335.length : Int) = (t338.length : Int) then (curtilagelaw13_GraphBegins.l0 k x5 t332 t335 t338 0) else (some false)))))
def curtilagelaw13_GraphBegins.l0 : Nat → Bool → List Int → List Int → List Int → Int → Option (Bool)
  | 0, _, _, _, _, _ => none
  | k + 1, x5, x8, x9, x10, x11 => if x11 < (x9.length : Int) then (if 0 ≤ x11 then (if 0 ≤ (wrap64 ((wrap64 ((x10.length : Int) - 1)) - x11)) then (if (wrap64 ((wrap64 ((x10.length : Int) - 1)) - x11)) < (x10.length : Int) then (if (rd x9 x11) = (rd x10 (wrap64 ((wrap64 ((x10.length : Int) - 1)) - x11))) then (curtilagelaw13_GraphBegins.l0 k x5 x8 x9 x10 (wrap64 (x11 + 1))) else (some false)) else (none)) else (none)) else (none)) else (if x5 = true then ((curtilageref10_Numbers.f k x8 x10).bind fun t343 => (some t343)) else (some false))
end
def curtilagelaw13_GraphBegins.f (k : Nat) (l0 : List (S29)) (l1 : List Int) : Option (Bool) := (curtilagelaw13_awake.f k).bind fun t329 => ((curtilageref13_Short.f k l0 20).bind fun t330 => ((curtilageref13_Right.f k l1 (l0.length : Int)).bind fun t331 => (if t330 = true then (curtilagelaw13_GraphBegins.j0 k l0 l1 t329 (!t331)) else (curtilagelaw13_GraphBegins.j0 k l0 l1 t329 true))))
theorem curtilagelaw13_GraphBegins.mono_l : ∀ k, (∀ y0 y1 y2 y3, LeO (curtilagelaw13_GraphBegins.j0 k y0 y1 y2 y3) (curtilagelaw13_GraphBegins.j0 (k + 1) y0 y1 y2 y3)) ∧ (∀ y0 y1 y2 y3 y4, LeO (curtilagelaw13_GraphBegins.l0 k y0 y1 y2 y3 y4) (curtilagelaw13_GraphBegins.l0 (k + 1) y0 y1 y2 y3 y4))
  | 0 => ⟨fun _ _ _ _ r h => by simp [curtilagelaw13_GraphBegins.j0] at h, fun _ _ _ _ _ r h => by simp [curtilagelaw13_GraphBegins.l0] at h⟩
  | k + 1 => by
    obtain ⟨ih0, ih1⟩ := curtilagelaw13_GraphBegins.mono_l k
    refine ⟨?_, ?_⟩
    · intro y0 y1 y2 y3
      unfold curtilagelaw13_GraphBegins.j0
      repeat' first
      | (with_reducible exact ih0 _ _ _ _)
      | (with_reducible exact ih1 _ _ _ _ _)
      | (with_reducible exact curtilagelaw13_awake.mono _)
      | (with_reducible exact curtilageref10_Numbers.mono _ _ _)
      | (with_reducible exact curtilageref13_Right.mono _ _ _)
      | (with_reducible exact curtilageref13_Short.mono _ _ _)
      | (with_reducible exact graph_End.mono _ _ _)
      | (with_reducible exact LeO.refl _)
      | (with_reducible exact LeO.none _)
      | (with_reducible refine LeO.ite ?_ ?_)
      | (with_reducible refine LeO.bind ?_ (fun _ => ?_))
      | exact ih0 _ _ _ _
      | exact ih1 _ _ _ _ _
      | exact curtilagelaw13_awake.mono _
      | exact curtilageref10_Numbers.mono _ _ _
      | exact curtilageref13_Right.mono _ _ _
      | exact curtilageref13_Short.mono _ _ _
      | exact graph_End.mono _ _ _
      | exact LeO.none _
      | refine LeO.ite ?_ ?_
      | refine LeO.bind ?_ (fun _ => ?_)
    · intro y0 y1 y2 y3 y4
      unfold curtilagelaw13_GraphBegins.l0
      repeat' first
      | (with_reducible exact ih0 _ _ _ _)
      | (with_reducible exact ih1 _ _ _ _ _)
      | (with_reducible exact curtilagelaw13_awake.mono _)
      | (with_reducible exact curtilageref10_Numbers.mono _ _ _)
      | (with_reducible exact curtilageref13_Right.mono _ _ _)
      | (with_reducible exact curtilageref13_Short.mono _ _ _)
      | (with_reducible exact graph_End.mono _ _ _)
      | (with_reducible exact LeO.refl _)
      | (with_reducible exact LeO.none _)
      | (with_reducible refine LeO.ite ?_ ?_)
      | (with_reducible refine LeO.bind ?_ (fun _ => ?_))
      | exact ih0 _ _ _ _
      | exact ih1 _ _ _ _ _
      | exact curtilagelaw13_awake.mono _
      | exact curtilageref10_Numbers.mono _ _ _
      | exact curtilageref13_Right.mono _ _ _
      | exact curtilageref13_Short.mono _ _ _
      | exact graph_End.mono _ _ _
      | exact LeO.none _
      | refine LeO.ite ?_ ?_
      | refine LeO.bind ?_ (fun _ => ?_)
theorem curtilagelaw13_GraphBegins.mono : ∀ a0 a1 k, LeO (curtilagelaw13_GraphBegins.f k a0 a1) (curtilagelaw13_GraphBegins.f (k + 1) a0 a1) := by
  intro a0 a1 k
  obtain ⟨ih0, ih1⟩ := curtilagelaw13_GraphBegins.mono_l k
  unfold curtilagelaw13_GraphBegins.f
  repeat' first
      | (with_reducible exact ih0 _ _ _ _)
      | (with_reducible exact ih1 _ _ _ _ _)
      | (with_reducible exact curtilagelaw13_awake.mono _)
      | (with_reducible exact curtilageref10_Numbers.mono _ _ _)
      | (with_reducible exact curtilageref13_Right.mono _ _ _)
      | (with_reducible exact curtilageref13_Short.mono _ _ _)
      | (with_reducible exact graph_End.mono _ _ _)
      | (with_reducible exact LeO.refl _)
      | (with_reducible exact LeO.none _)
      | (with_reducible refine LeO.ite ?_ ?_)
      | (with_reducible refine LeO.bind ?_ (fun _ => ?_))
      | exact ih0 _ _ _ _
      | exact ih1 _ _ _ _ _
      | exact curtilagelaw13_awake.mono _
      | exact curtilageref10_Numbers.mono _ _ _
      | exact curtilageref13_Right.mono _ _ _
      | exact curtilageref13_Short.mono _ _ _
      | exact graph_End.mono _ _ _
      | exact LeO.none _
      | refine LeO.ite ?_ ?_
      | refine LeO.bind ?_ (fun _ => ?_)
def curtilageref13_Needs.l0 : Nat → List (S29) → Int → Int → Int → Option (Bool)
  | 0, _, _, _, _ => none
  | k + 1, x0, x1, x2, x7 => if 0 ≤ x1 then (if x1 < (x0.length : Int) then (if x7 < (((rd_T29 x0 x1).f1).length : Int) then (if 0 ≤ x7 then ((curtilageref13_Find.f k x0 (rdOf ByteArray.empty ((rd_T29 x0 x1).f1) x7)).bind fun t347 => (if t347 = x2 then (some true) else (curtilageref13_Needs.l0 k x0 x1 x2 (wrap64 (x7 + 1))))) else (none)) else (some false)) else (none)) else (none)
def curtilageref13_Needs.f (k : Nat) (l0 : List (S29)) (a1 : Int) (a2 : Int) : Option (Bool) := curtilageref13_Needs.l0 k l0 a1 a2 0
theorem curtilageref13_Needs.mono_l : ∀ k, (∀ y0 y1 y2 y3, LeO (curtilageref13_Needs.l0 k y0 y1 y2 y3) (curtilageref13_Needs.l0 (k + 1) y0 y1 y2 y3))
  | 0 => fun _ _ _ _ r h => by simp [curtilageref13_Needs.l0] at h
  | k + 1 => by
    have ih0 := curtilageref13_Needs.mono_l k
    · intro y0 y1 y2 y3
      unfold curtilageref13_Needs.l0
      repeat' first
      | (with_reducible exact ih0 _ _ _ _)
      | (with_reducible exact curtilageref13_Find.mono _ _ _)
      | (with_reducible exact LeO.refl _)
      | (with_reducible exact LeO.none _)
      | (with_reducible refine LeO.ite ?_ ?_)
      | (with_reducible refine LeO.bind ?_ (fun _ => ?_))
      | exact ih0 _ _ _ _
      | exact curtilageref13_Find.mono _ _ _
      | exact LeO.none _
      | refine LeO.ite ?_ ?_
      | refine LeO.bind ?_ (fun _ => ?_)
theorem curtilageref13_Needs.mono : ∀ a0 a1 a2 k, LeO (curtilageref13_Needs.f k a0 a1 a2) (curtilageref13_Needs.f (k + 1) a0 a1 a2) := by
  intro a0 a1 a2 k
  have ih0 := curtilageref13_Needs.mono_l k
  unfold curtilageref13_Needs.f
  repeat' first
      | (with_reducible exact ih0 _ _ _ _)
      | (with_reducible exact curtilageref13_Find.mono _ _ _)
      | (with_reducible exact LeO.refl _)
      | (with_reducible exact LeO.none _)
      | (with_reducible refine LeO.ite ?_ ?_)
      | (with_reducible refine LeO.bind ?_ (fun _ => ?_))
      | exact ih0 _ _ _ _
      | exact curtilageref13_Find.mono _ _ _
      | exact LeO.none _
      | refine LeO.ite ?_ ?_
      | refine LeO.bind ?_ (fun _ => ?_)
set_option maxHeartbeats 8000000 in
set_option maxRecDepth 100000 in
theorem curtilageref13_Needs.calls (k : Nat) (A0 : Option Addr) (c0 : Nat) (l0 : List (S29)) (a1 : Int) (a2 : Int) (r : Bool) (w : World) (hr0 : Kd.C k29 w A0 l0.length l0) (hc0 : l0.length ≤ c0) (h : curtilageref13_Needs.f k l0 a1 a2 = some r) :
    Calls Try.prog 16 #[.slice A0 l0.length c0, .int .i64 a1, .int .i64 a2] w fun e w' => e = .returned (.bool r) ∧ Drawn0 w w' := by
  have HR0 := Aside0.mk hr0
  have HC0 := Aside0.mk hc0
  clear hr0 hc0
  have H : (curtilageref13_Needs.l0 k l0 a1 a2 0) = some r := h
  clear h
  have H' := Aside0.mk H
  clear H
  go_enter Try.func16, Try.ntmps16
  go_wp2
  go_loopg [7] k (fun kq v7 w' => ∃ (x7_1 : Int), v7 = .int .i64 x7_1 ∧ Aside0 (curtilageref13_Needs.l0 kq l0 a1 a2 x7_1 = some r) ∧ Aside0 (kq ≤ k) ∧ Drawn0 w w')
  case atStart => exact ⟨(0), (by first | rfl | (simp; done) | (simp [*]; done)), H', ⟨Nat.le_refl _⟩, by repeat (first | exact Drawn0.refl _ | apply Drawn0.step)⟩
  case round =>
    clear H'
    try clear c1
    try clear p2
    obtain ⟨x7_1, rfl, HA, HK1, ⟨m1, rfl⟩⟩ := hrel
    cases gk with
    | zero => exact absurd HA.out (by simp [curtilageref13_Needs.l0])
    | succ k1 =>
      have H := HA.out
      clear HA
      simp only [curtilageref13_Needs.l0] at H
      by_cases c4 : 0 ≤ a1
      · rw [if_pos c4] at H
        have c4b0 : decide (0 ≤ a1) = true := decide_eq_true c4
        clear c4
        by_cases c5 : a1 < (l0.length : Int)
        · rw [if_pos c5] at H
          have c5b0 : decide (a1 < (l0.length : Int)) = true := decide_eq_true c5
          clear c5
          by_cases c6 : x7_1 < (((rd_T29 l0 a1).f1).length : Int)
          · rw [if_pos c6] at H
            have c6b0 : decide (x7_1 < (((rd_T29 l0 a1).f1).length : Int)) = true := decide_eq_true c6
            clear c6
            by_cases c7 : 0 ≤ x7_1
            · rw [if_pos c7] at H
              have c7b0 : decide (0 ≤ x7_1) = true := decide_eq_true c7
              clear c7
              replace H := Option.bind_eq_some_iff.mp H
              obtain ⟨t347, A80, H⟩ := H
              replace H : (if t347 = a2 then (some true) else (curtilageref13_Needs.l0 k1 l0 a1 a2 (wrap64 (x7_1 + 1)))) = some r := H
              have A8 := Aside0.mk A80
              clear A80
              by_cases c9 : t347 = a2
              · rw [if_pos c9] at H
                have c9b0 : (t347 == a2) = true := beq_iff_eq.mpr c9
                have c9b1 : (t347 != a2) = false := bne_eq_false_iff_eq.mpr c9
                clear c9
                obtain rfl := Option.some.inj H
                have p344 : 0 ≤ (a1 : Int) := of_decide_eq_true (by first | (with_reducible assumption) | assumption)
                have q344 : a1 < (l0.length : Int) := of_decide_eq_true (by first | (with_reducible assumption) | assumption)
                obtain ⟨ad344, A344_1, c344_1, A344_2, c344_2, A344_3, c344_3, A344_4, c344_4, A344_5, c344_5, A344_6, c344_6, e344, hx344_0, hx344_1, hx344_2, hx344_3, hx344_4, hx344_5, hx344_6, hl344_1, hi344_1, hl344_2, hi344_2, hl344_3, hi344_3, hl344_4, hi344_4, hl344_5, hi344_5, hl344_6, hi344_6⟩ := at_T29 HR0.out a1 p344 q344
                cases e344
                have HR344_1 := Aside0.mk hi344_1
                have HC344_1 := Aside0.mk hl344_1
                clear hi344_1 hl344_1
                have HR344_2 := Aside0.mk hi344_2
                have HC344_2 := Aside0.mk hl344_2
                clear hi344_2 hl344_2
                have HR344_3 := Aside0.mk hi344_3
                have HC344_3 := Aside0.mk hl344_3
                clear hi344_3 hl344_3
                have HR344_4 := Aside0.mk hi344_4
                have HC344_4 := Aside0.mk hl344_4
                clear hi344_4 hl344_4
                have HR344_5 := Aside0.mk hi344_5
                have HC344_5 := Aside0.mk hl344_5
                clear hi344_5 hl344_5
                have HR344_6 := Aside0.mk hi344_6
                have HC344_6 := Aside0.mk hl344_6
                clear hi344_6 hl344_6
                replace p344 := eq_true p344
                replace q344 := eq_true q344
                have p345 : 0 ≤ (a1 : Int) := of_decide_eq_true (by first | (with_reducible assumption) | assumption)
                have q345 : a1 < (l0.length : Int) := of_decide_eq_true (by first | (with_reducible assumption) | assumption)
                obtain ⟨ad345, A345_1, c345_1, A345_2, c345_2, A345_3, c345_3, A345_4, c345_4, A345_5, c345_5, A345_6, c345_6, e345, hx345_0, hx345_1, hx345_2, hx345_3, hx345_4, hx345_5, hx345_6, hl345_1, hi345_1, hl345_2, hi345_2, hl345_3, hi345_3, hl345_4, hi345_4, hl345_5, hi345_5, hl345_6, hi345_6⟩ := at_T29 HR0.out a1 p345 q345
                obtain rfl : ad344 = ad345 := (by injection e345)
                have HR345_1 := Aside0.mk hi345_1
                have HC345_1 := Aside0.mk hl345_1
                clear hi345_1 hl345_1
                have HR345_2 := Aside0.mk hi345_2
                have HC345_2 := Aside0.mk hl345_2
                clear hi345_2 hl345_2
                have HR345_3 := Aside0.mk hi345_3
                have HC345_3 := Aside0.mk hl345_3
                clear hi345_3 hl345_3
                have HR345_4 := Aside0.mk hi345_4
                have HC345_4 := Aside0.mk hl345_4
                clear hi345_4 hl345_4
                have HR345_5 := Aside0.mk hi345_5
                have HC345_5 := Aside0.mk hl345_5
                clear hi345_5 hl345_5
                have HR345_6 := Aside0.mk hi345_6
                have HC345_6 := Aside0.mk hl345_6
                clear hi345_6 hl345_6
                replace p345 := eq_true p345
                replace q345 := eq_true q345
                have ea_ := Option.some.inj (hx344_1.symm.trans hx345_1)
                injection ea_ with ea_ en_ ec_
                subst ea_
                subst ec_
                clear en_
                have ea_ := Option.some.inj (hx344_2.symm.trans hx345_2)
                injection ea_ with ea_ en_ ec_
                subst ea_
                subst ec_
                clear en_
                have ea_ := Option.some.inj (hx344_3.symm.trans hx345_3)
                injection ea_ with ea_ en_ ec_
                subst ea_
                subst ec_
                clear en_
                have ea_ := Option.some.inj (hx344_4.symm.trans hx345_4)
                injection ea_ with ea_ en_ ec_
                subst ea_
                subst ec_
                clear en_
                have ea_ := Option.some.inj (hx344_5.symm.trans hx345_5)
                injection ea_ with ea_ en_ ec_
                subst ea_
                subst ec_
                clear en_
                have ea_ := Option.some.inj (hx344_6.symm.trans hx345_6)
                injection ea_ with ea_ en_ ec_
                subst ea_
                subst ec_
                clear en_
                have p346 : 0 ≤ (x7_1 : Int) := of_decide_eq_true (by first | (with_reducible assumption) | assumption)
                have q346 : x7_1 < (((rd_T29 l0 a1).f1).length : Int) := of_decide_eq_true (by first | (with_reducible assumption) | assumption)
                obtain ⟨ad346, e346, hx346_0⟩ := Kd.at_string HR345_1.out x7_1 p346 q346
                cases e346
                replace p346 := eq_true p346
                replace q346 := eq_true q346
                go_wp2_with (first | ((with_reducible refine gate_dst (N := 27) rfl ?_); (with_reducible refine gate_callee (f := 22) rfl ?_); refine goesL_ (some 27) rfl rfl Try.func22 (by kernel_rfl) rfl #[.slice (some ad344) l0.length c0, .string (rdOf ByteArray.empty ((rd_T29 l0 a1).f1) x7_1)] rfl (by (try simp only [List.map_toArray, List.map_cons, List.map_nil]); first | done | rfl | (simp only [List.length_drop, List.length_take]; rfl)) ?_; (with_reducible refine (curtilageref13_Find.calls k1 _ _ l0 (rdOf ByteArray.empty ((rd_T29 l0 a1).f1) x7_1) t347 _ ?side1 ?side2 A8.out).mono ?_); (case side1 => repeat (first | exact HR0.out | (with_reducible refine Kd.C_alloc ?_ _) | (with_reducible refine Kd.C_drewN ?_ _) | (with_reducible refine Kd.C_drew ?_))); (case side2 => exact HC0.out); rintro e w' ⟨rfl, ⟨nd, rfl⟩⟩; refine ⟨_, rfl, ?_⟩))
                go_ret
                exact ⟨by first | rfl | (simp; done) | (simp [*]; done), by repeat (first | exact Drawn0.refl _ | apply Drawn0.step)⟩
              · rw [if_neg c9] at H
                have c9b0 : (t347 == a2) = false := beq_eq_false_iff_ne.mpr c9
                have c9b1 : (t347 != a2) = true := bne_iff_ne.mpr c9
                have H' := Aside0.mk H
                clear H
                have p344 : 0 ≤ (a1 : Int) := of_decide_eq_true (by first | (with_reducible assumption) | assumption)
                have q344 : a1 < (l0.length : Int) := of_decide_eq_true (by first | (with_reducible assumption) | assumption)
                obtain ⟨ad344, A344_1, c344_1, A344_2, c344_2, A344_3, c344_3, A344_4, c344_4, A344_5, c344_5, A344_6, c344_6, e344, hx344_0, hx344_1, hx344_2, hx344_3, hx344_4, hx344_5, hx344_6, hl344_1, hi344_1, hl344_2, hi344_2, hl344_3, hi344_3, hl344_4, hi344_4, hl344_5, hi344_5, hl344_6, hi344_6⟩ := at_T29 HR0.out a1 p344 q344
                cases e344
                have HR344_1 := Aside0.mk hi344_1
                have HC344_1 := Aside0.mk hl344_1
                clear hi344_1 hl344_1
                have HR344_2 := Aside0.mk hi344_2
                have HC344_2 := Aside0.mk hl344_2
                clear hi344_2 hl344_2
                have HR344_3 := Aside0.mk hi344_3
                have HC344_3 := Aside0.mk hl344_3
                clear hi344_3 hl344_3
                have HR344_4 := Aside0.mk hi344_4
                have HC344_4 := Aside0.mk hl344_4
                clear hi344_4 hl344_4
                have HR344_5 := Aside0.mk hi344_5
                have HC344_5 := Aside0.mk hl344_5
                clear hi344_5 hl344_5
                have HR344_6 := Aside0.mk hi344_6
                have HC344_6 := Aside0.mk hl344_6
                clear hi344_6 hl344_6
                replace p344 := eq_true p344
                replace q344 := eq_true q344
                have p345 : 0 ≤ (a1 : Int) := of_decide_eq_true (by first | (with_reducible assumption) | assumption)
                have q345 : a1 < (l0.length : Int) := of_decide_eq_true (by first | (with_reducible assumption) | assumption)
                obtain ⟨ad345, A345_1, c345_1, A345_2, c345_2, A345_3, c345_3, A345_4, c345_4, A345_5, c345_5, A345_6, c345_6, e345, hx345_0, hx345_1, hx345_2, hx345_3, hx345_4, hx345_5, hx345_6, hl345_1, hi345_1, hl345_2, hi345_2, hl345_3, hi345_3, hl345_4, hi345_4, hl345_5, hi345_5, hl345_6, hi345_6⟩ := at_T29 HR0.out a1 p345 q345
                obtain rfl : ad344 = ad345 := (by injection e345)
                have HR345_1 := Aside0.mk hi345_1
                have HC345_1 := Aside0.mk hl345_1
                clear hi345_1 hl345_1
                have HR345_2 := Aside0.mk hi345_2
                have HC345_2 := Aside0.mk hl345_2
                clear hi345_2 hl345_2
                have HR345_3 := Aside0.mk hi345_3
                have HC345_3 := Aside0.mk hl345_3
                clear hi345_3 hl345_3
                have HR345_4 := Aside0.mk hi345_4
                have HC345_4 := Aside0.mk hl345_4
                clear hi345_4 hl345_4
                have HR345_5 := Aside0.mk hi345_5
                have HC345_5 := Aside0.mk hl345_5
                clear hi345_5 hl345_5
                have HR345_6 := Aside0.mk hi345_6
                have HC345_6 := Aside0.mk hl345_6
                clear hi345_6 hl345_6
                replace p345 := eq_true p345
                replace q345 := eq_true q345
                have ea_ := Option.some.inj (hx344_1.symm.trans hx345_1)
                injection ea_ with ea_ en_ ec_
                subst ea_
                subst ec_
                clear en_
                have ea_ := Option.some.inj (hx344_2.symm.trans hx345_2)
                injection ea_ with ea_ en_ ec_
                subst ea_
                subst ec_
                clear en_
                have ea_ := Option.some.inj (hx344_3.symm.trans hx345_3)
                injection ea_ with ea_ en_ ec_
                subst ea_
                subst ec_
                clear en_
                have ea_ := Option.some.inj (hx344_4.symm.trans hx345_4)
                injection ea_ with ea_ en_ ec_
                subst ea_
                subst ec_
                clear en_
                have ea_ := Option.some.inj (hx344_5.symm.trans hx345_5)
                injection ea_ with ea_ en_ ec_
                subst ea_
                subst ec_
                clear en_
                have ea_ := Option.some.inj (hx344_6.symm.trans hx345_6)
                injection ea_ with ea_ en_ ec_
                subst ea_
                subst ec_
                clear en_
                have p346 : 0 ≤ (x7_1 : Int) := of_decide_eq_true (by first | (with_reducible assumption) | assumption)
                have q346 : x7_1 < (((rd_T29 l0 a1).f1).length : Int) := of_decide_eq_true (by first | (with_reducible assumption) | assumption)
                obtain ⟨ad346, e346, hx346_0⟩ := Kd.at_string HR345_1.out x7_1 p346 q346
                cases e346
                replace p346 := eq_true p346
                replace q346 := eq_true q346
                go_wp2_with (first | ((with_reducible refine gate_dst (N := 27) rfl ?_); (with_reducible refine gate_callee (f := 22) rfl ?_); refine goesL_ (some 27) rfl rfl Try.func22 (by kernel_rfl) rfl #[.slice (some ad344) l0.length c0, .string (rdOf ByteArray.empty ((rd_T29 l0 a1).f1) x7_1)] rfl (by (try simp only [List.map_toArray, List.map_cons, List.map_nil]); first | done | rfl | (simp only [List.length_drop, List.length_take]; rfl)) ?_; (with_reducible refine (curtilageref13_Find.calls k1 _ _ l0 (rdOf ByteArray.empty ((rd_T29 l0 a1).f1) x7_1) t347 _ ?side1 ?side2 A8.out).mono ?_); (case side1 => repeat (first | exact HR0.out | (with_reducible refine Kd.C_alloc ?_ _) | (with_reducible refine Kd.C_drewN ?_ _) | (with_reducible refine Kd.C_drew ?_))); (case side2 => exact HC0.out); rintro e w' ⟨rfl, ⟨nd, rfl⟩⟩; refine ⟨_, rfl, ?_⟩))
                go_roundg k1
                case measure => have := HK1.out; omega
                case rel => exact ⟨(wrap64 (x7_1 + 1)), (by first | rfl | (simp; done) | (simp [*]; done)), H', ⟨by have := HK1.out; omega⟩, by repeat (first | exact Drawn0.refl _ | apply Drawn0.step)⟩
            · rw [if_neg c7] at H
              exact absurd H (by simp)
          · rw [if_neg c6] at H
            have c6b0 : decide (x7_1 < (((rd_T29 l0 a1).f1).length : Int)) = false := decide_eq_false c6
            clear c6
            obtain rfl := Option.some.inj H
            have p344 : 0 ≤ (a1 : Int) := of_decide_eq_true (by first | (with_reducible assumption) | assumption)
            have q344 : a1 < (l0.length : Int) := of_decide_eq_true (by first | (with_reducible assumption) | assumption)
            obtain ⟨ad344, A344_1, c344_1, A344_2, c344_2, A344_3, c344_3, A344_4, c344_4, A344_5, c344_5, A344_6, c344_6, e344, hx344_0, hx344_1, hx344_2, hx344_3, hx344_4, hx344_5, hx344_6, hl344_1, hi344_1, hl344_2, hi344_2, hl344_3, hi344_3, hl344_4, hi344_4, hl344_5, hi344_5, hl344_6, hi344_6⟩ := at_T29 HR0.out a1 p344 q344
            cases e344
            have HR344_1 := Aside0.mk hi344_1
            have HC344_1 := Aside0.mk hl344_1
            clear hi344_1 hl344_1
            have HR344_2 := Aside0.mk hi344_2
            have HC344_2 := Aside0.mk hl344_2
            clear hi344_2 hl344_2
            have HR344_3 := Aside0.mk hi344_3
            have HC344_3 := Aside0.mk hl344_3
            clear hi344_3 hl344_3
            have HR344_4 := Aside0.mk hi344_4
            have HC344_4 := Aside0.mk hl344_4
            clear hi344_4 hl344_4
            have HR344_5 := Aside0.mk hi344_5
            have HC344_5 := Aside0.mk hl344_5
            clear hi344_5 hl344_5
            have HR344_6 := Aside0.mk hi344_6
            have HC344_6 := Aside0.mk hl344_6
            clear hi344_6 hl344_6
            replace p344 := eq_true p344
            replace q344 := eq_true q344
            go_wp2
            go_ret
            exact ⟨by first | rfl | (simp; done) | (simp [*]; done), by repeat (first | exact Drawn0.refl _ | apply Drawn0.step)⟩
        · rw [if_neg c5] at H
          exact absurd H (by simp)
      · rw [if_neg c4] at H
        exact absurd H (by simp)

end Go.Proofs.Ytndmfjdoekdleaa.P
