/- What functions of the program, and of its laws, give, each proved of its code by a walk; no condition. -/
import Derived.Test.YtndmfjdoekdleaaKGraphAllPx0
import Derived.Test.YtndmfjdoekdleaaKGraphAllPx1
import Derived.Test.YtndmfjdoekdleaaKGraphAllPx3
import Derived.Test.YtndmfjdoekdleaaKGraphAllPx4
import Derived.Test.YtndmfjdoekdleaaKGraphAllPx6
import Derived.Test.YtndmfjdoekdleaaKGraphAllPx8
import Derived.Test.YtndmfjdoekdleaaKGraphAllPx10
namespace Go.Proofs.Ytndmfjdoekdleaa.P
open Go.RowKit Go.Proofs.YtndmfjdoekdleaaW.PrintWords Go.Proofs.YtndmfjdoekdleaaW.PrintLast Go.Proofs.YtndmfjdoekdleaaW.PrintMore
attribute [local go_sem] max2_int min2_int max_two min_two max_three min_three max_four min_four   -- for this text's walks alone
set_option linter.unusedVariables false
set_option linter.unusedSimpArgs false

def curtilagelaw13_GraphCloses.f (k : Nat) (l0 : List (S29)) (a1 : ByteArray) (a2 : Int) : Option (Bool) := (curtilagelaw13_awake.f k).bind fun t410 => ((curtilageref13_Short.f k l0 20).bind fun t411 => (if t411 = true then ((graph_Closure.f l0 a1).bind fun bt412 => ((curtilageref13_Closure.f k l0 a1).bind fun bt417 => ((graph_Reach.f k l0 a2).bind fun t422 => ((graph_Find.f l0 a1).bind fun t425 => (if t410 = true then (if bt412.2.2 = bt417.2.2 then (if bt412.2.1.toList = bt417.2.1.toList then ((curtilageref10_Numbers.f k bt412.1 bt417.1).bind fun t426 => (if t426 = true then ((curtilageref13_Reach.f k l0 a2).bind fun t427 => ((curtilageref10_Numbers.f k t422 t427).bind fun t430 => (if t430 = true then ((curtilageref13_Find.f k l0 a1).bind fun t431 => (some (t425 == t431))) else (some false)))) else (some false))) else (some false)) else (some false)) else (some false)))))) else (some t410)))
theorem curtilagelaw13_GraphCloses.mono : ∀ a0 a1 a2 k, LeO (curtilagelaw13_GraphCloses.f k a0 a1 a2) (curtilagelaw13_GraphCloses.f (k + 1) a0 a1 a2) := by
  intro a0 a1 a2 k
  unfold curtilagelaw13_GraphCloses.f
  repeat' first
      | (with_reducible exact curtilagelaw13_awake.mono _)
      | (with_reducible exact curtilageref10_Numbers.mono _ _ _)
      | (with_reducible exact curtilageref13_Closure.mono _ _ _)
      | (with_reducible exact curtilageref13_Find.mono _ _ _)
      | (with_reducible exact curtilageref13_Reach.mono _ _ _)
      | (with_reducible exact curtilageref13_Short.mono _ _ _)
      | (with_reducible exact graph_Reach.mono _ _ _)
      | (with_reducible exact LeO.refl _)
      | (with_reducible exact LeO.none _)
      | (with_reducible refine LeO.ite ?_ ?_)
      | (with_reducible refine LeO.bind ?_ (fun _ => ?_))
      | exact curtilagelaw13_awake.mono _
      | exact curtilageref10_Numbers.mono _ _ _
      | exact curtilageref13_Closure.mono _ _ _
      | exact curtilageref13_Find.mono _ _ _
      | exact curtilageref13_Reach.mono _ _ _
      | exact curtilageref13_Short.mono _ _ _
      | exact graph_Reach.mono _ _ _
      | exact LeO.none _
      | refine LeO.ite ?_ ?_
      | refine LeO.bind ?_ (fun _ => ?_)
def curtilagelaw13_GraphAll.l0 : Nat → Bool → List Int → List Int → List Int → Bool → Bool → Int → Option (Bool)
  | 0, _, _, _, _, _, _, _ => none
  | k + 1, x5, x7, x10, x11, x12, x13, x14 => if x14 < (x10.length : Int) then (if 0 ≤ x14 then ((curtilageref13_Has.f k x7 (rd x10 x14)).bind fun t449 => ((curtilageref13_Has.f k x11 (rd x10 x14)).bind fun t451 => (if t449 = true then (if t451 = true then (curtilagelaw13_GraphAll.l0 k x5 x7 x10 x11 x12 x13 (wrap64 (x14 + 1))) else (some false)) else (some false)))) else (none)) else (if x5 = true then (if x12 = true then (if x13 = true then (if (x10.length : Int) = (x7.length : Int) then (some ((x11.length : Int) == (x7.length : Int))) else (some false)) else (some false)) else (some false)) else (some false))
def curtilagelaw13_GraphAll.f (k : Nat) (l0 : List (S29)) (a1 : ByteArray) : Option (Bool) := (curtilagelaw13_awake.f k).bind fun t432 => ((curtilageref13_Short.f k l0 20).bind fun t433 => (if t433 = true then ((graph_Closure.f l0 a1).bind fun bt434 => (if bt434.2.2 = 0 then (if (bt434.1.length : Int) = 0 then (some false) else (if 0 < (bt434.1.length : Int) then ((graph_Reach.f k l0 (rd bt434.1 0)).bind fun t440 => ((graph_Begin.f l0 bt434.1).bind fun t443 => ((curtilageref13_Right.f k bt434.1 (l0.length : Int)).bind fun t446 => ((curtilageref13_Right.f k t443 (l0.length : Int)).bind fun t447 => (curtilagelaw13_GraphAll.l0 k t432 bt434.1 t440 t443 t446 t447 0))))) else (none))) else (if t432 = true then (some ((bt434.1.length : Int) == 0)) else (some false)))) else (some t432)))
theorem curtilagelaw13_GraphAll.mono_l : ∀ k, (∀ y0 y1 y2 y3 y4 y5 y6, LeO (curtilagelaw13_GraphAll.l0 k y0 y1 y2 y3 y4 y5 y6) (curtilagelaw13_GraphAll.l0 (k + 1) y0 y1 y2 y3 y4 y5 y6))
  | 0 => fun _ _ _ _ _ _ _ r h => by simp [curtilagelaw13_GraphAll.l0] at h
  | k + 1 => by
    have ih0 := curtilagelaw13_GraphAll.mono_l k
    · intro y0 y1 y2 y3 y4 y5 y6
      unfold curtilagelaw13_GraphAll.l0
      repeat' first
      | (with_reducible exact ih0 _ _ _ _ _ _ _)
      | (with_reducible exact curtilagelaw13_awake.mono _)
      | (with_reducible exact curtilageref13_Has.mono _ _ _)
      | (with_reducible exact curtilageref13_Right.mono _ _ _)
      | (with_reducible exact curtilageref13_Short.mono _ _ _)
      | (with_reducible exact graph_Reach.mono _ _ _)
      | (with_reducible exact LeO.refl _)
      | (with_reducible exact LeO.none _)
      | (with_reducible refine LeO.ite ?_ ?_)
      | (with_reducible refine LeO.bind ?_ (fun _ => ?_))
      | exact ih0 _ _ _ _ _ _ _
      | exact curtilagelaw13_awake.mono _
      | exact curtilageref13_Has.mono _ _ _
      | exact curtilageref13_Right.mono _ _ _
      | exact curtilageref13_Short.mono _ _ _
      | exact graph_Reach.mono _ _ _
      | exact LeO.none _
      | refine LeO.ite ?_ ?_
      | refine LeO.bind ?_ (fun _ => ?_)
theorem curtilagelaw13_GraphAll.mono : ∀ a0 a1 k, LeO (curtilagelaw13_GraphAll.f k a0 a1) (curtilagelaw13_GraphAll.f (k + 1) a0 a1) := by
  intro a0 a1 k
  have ih0 := curtilagelaw13_GraphAll.mono_l k
  unfold curtilagelaw13_GraphAll.f
  repeat' first
      | (with_reducible exact ih0 _ _ _ _ _ _ _)
      | (with_reducible exact curtilagelaw13_awake.mono _)
      | (with_reducible exact curtilageref13_Has.mono _ _ _)
      | (with_reducible exact curtilageref13_Right.mono _ _ _)
      | (with_reducible exact curtilageref13_Short.mono _ _ _)
      | (with_reducible exact graph_Reach.mono _ _ _)
      | (with_reducible exact LeO.refl _)
      | (with_reducible exact LeO.none _)
      | (with_reducible refine LeO.ite ?_ ?_)
      | (with_reducible refine LeO.bind ?_ (fun _ => ?_))
      | exact ih0 _ _ _ _ _ _ _
      | exact curtilagelaw13_awake.mono _
      | exact curtilageref13_Has.mono _ _ _
      | exact curtilageref13_Right.mono _ _ _
      | exact curtilageref13_Short.mono _ _ _
      | exact graph_Reach.mono _ _ _
      | exact LeO.none _
      | refine LeO.ite ?_ ?_
      | refine LeO.bind ?_ (fun _ => ?_)
set_option maxHeartbeats 8000000 in
set_option maxRecDepth 100000 in
theorem curtilagelaw13_GraphAll.calls (k : Nat) (A0 : Option Addr) (c0 : Nat) (l0 : List (S29)) (a1 : ByteArray) (r : Bool) (w : World) (hr0 : Kd.C k29 w A0 l0.length l0) (hc0 : l0.length ≤ c0) (h : curtilagelaw13_GraphAll.f k l0 a1 = some r) (hr0 : r = true) :
    Calls Try.prog 7 #[.slice A0 l0.length c0, .string a1] w fun e w' => e = .returned (.bool r) ∧ Below w.heap.size w w' := by
  have HT := Aside0.mk hr0
  clear hr0
  have HR0 := Aside0.mk hr0
  have HC0 := Aside0.mk hc0
  clear hr0 hc0
  have HB := Aside0.mk (Below.refl w.heap.size w)
  have H : ((curtilagelaw13_awake.f k).bind fun t432 => ((curtilageref13_Short.f k l0 20).bind fun t433 => (if t433 = true then ((graph_Closure.f l0 a1).bind fun bt434 => (if bt434.2.2 = 0 then (if (bt434.1.length : Int) = 0 then (some false) else (if 0 < (bt434.1.length : Int) then ((graph_Reach.f k l0 (rd bt434.1 0)).bind fun t440 => ((graph_Begin.f l0 bt434.1).bind fun t443 => ((curtilageref13_Right.f k bt434.1 (l0.length : Int)).bind fun t446 => ((curtilageref13_Right.f k t443 (l0.length : Int)).bind fun t447 => (curtilagelaw13_GraphAll.l0 k t432 bt434.1 t440 t443 t446 t447 0))))) else (none))) else (if t432 = true then (some ((bt434.1.length : Int) == 0)) else (some false)))) else (some t432)))) = some r := h
  clear h
  replace H := Option.bind_eq_some_iff.mp H
  obtain ⟨t432, A30, H⟩ := H
  replace H : ((curtilageref13_Short.f k l0 20).bind fun t433 => (if t433 = true then ((graph_Closure.f l0 a1).bind fun bt434 => (if bt434.2.2 = 0 then (if (bt434.1.length : Int) = 0 then (some false) else (if 0 < (bt434.1.length : Int) then ((graph_Reach.f k l0 (rd bt434.1 0)).bind fun t440 => ((graph_Begin.f l0 bt434.1).bind fun t443 => ((curtilageref13_Right.f k bt434.1 (l0.length : Int)).bind fun t446 => ((curtilageref13_Right.f k t443 (l0.length : Int)).bind fun t447 => (curtilagelaw13_GraphAll.l0 k t432 bt434.1 t440 t443 t446 t447 0))))) else (none))) else (if t432 = true then (some ((bt434.1.length : Int) == 0)) else (some false)))) else (some t432))) = some r := H
  have A3 := Aside0.mk A30
  clear A30
  replace H := Option.bind_eq_some_iff.mp H
  obtain ⟨t433, A40, H⟩ := H
  replace H : (if t433 = true then ((graph_Closure.f l0 a1).bind fun bt434 => (if bt434.2.2 = 0 then (if (bt434.1.length : Int) = 0 then (some false) else (if 0 < (bt434.1.length : Int) then ((graph_Reach.f k l0 (rd bt434.1 0)).bind fun t440 => ((graph_Begin.f l0 bt434.1).bind fun t443 => ((curtilageref13_Right.f k bt434.1 (l0.length : Int)).bind fun t446 => ((curtilageref13_Right.f k t443 (l0.length : Int)).bind fun t447 => (curtilagelaw13_GraphAll.l0 k t432 bt434.1 t440 t443 t446 t447 0))))) else (none))) else (if t432 = true then (some ((bt434.1.length : Int) == 0)) else (some false)))) else (some t432)) = some r := H
  have A4 := Aside0.mk A40
  clear A40
  by_cases c5 : t433 = true
  · subst c5
    have H1 : ((graph_Closure.f l0 a1).bind fun bt434 => (if bt434.2.2 = 0 then (if (bt434.1.length : Int) = 0 then (some false) else (if 0 < (bt434.1.length : Int) then ((graph_Reach.f k l0 (rd bt434.1 0)).bind fun t440 => ((graph_Begin.f l0 bt434.1).bind fun t443 => ((curtilageref13_Right.f k bt434.1 (l0.length : Int)).bind fun t446 => ((curtilageref13_Right.f k t443 (l0.length : Int)).bind fun t447 => (curtilagelaw13_GraphAll.l0 k t432 bt434.1 t440 t443 t446 t447 0))))) else (none))) else (if t432 = true then (some ((bt434.1.length : Int) == 0)) else (some false)))) = some r := by rw [if_pos rfl] at H; exact H
    clear H
    have H := H1
    clear H1
    replace H := Option.bind_eq_some_iff.mp H
    obtain ⟨⟨t434, t435, t436⟩, A60, H⟩ := H
    replace H : (if t436 = 0 then (if (t434.length : Int) = 0 then (some false) else (if 0 < (t434.length : Int) then ((graph_Reach.f k l0 (rd t434 0)).bind fun t440 => ((graph_Begin.f l0 t434).bind fun t443 => ((curtilageref13_Right.f k t434 (l0.length : Int)).bind fun t446 => ((curtilageref13_Right.f k t443 (l0.length : Int)).bind fun t447 => (curtilagelaw13_GraphAll.l0 k t432 t434 t440 t443 t446 t447 0))))) else (none))) else (if t432 = true then (some ((t434.length : Int) == 0)) else (some false))) = some r := H
    have A6 := Aside0.mk A60
    clear A60
    by_cases c7 : t436 = 0
    · rw [if_pos c7] at H
      have c7b0 : (t436 == 0) = true := beq_iff_eq.mpr c7
      have c7b1 : (t436 != 0) = false := bne_eq_false_iff_eq.mpr c7
      clear c7
      by_cases c8 : (t434.length : Int) = 0
      · rw [if_pos c8] at H
        have c8b0 : ((t434.length : Int) == 0) = true := beq_iff_eq.mpr c8
        have c8b1 : ((t434.length : Int) != 0) = false := bne_eq_false_iff_eq.mpr c8
        clear c8
        exact absurd ((Option.some.inj H).trans HT.out) (by decide)
      · rw [if_neg c8] at H
        have c8b0 : ((t434.length : Int) == 0) = false := beq_eq_false_iff_ne.mpr c8
        have c8b1 : ((t434.length : Int) != 0) = true := bne_iff_ne.mpr c8
        have c8b2 : ¬ (t434 = []) := fun h_ => c8 (by rw [h_]; rfl)
        by_cases c12 : 0 < (t434.length : Int)
        · rw [if_pos c12] at H
          have c12b0 : decide (0 < (t434.length : Int)) = true := decide_eq_true c12
          have c12b1 : decide (0 < t434.length) = true := decide_eq_true (by omega)
          clear c12
          replace H := Option.bind_eq_some_iff.mp H
          obtain ⟨t440, A130, H⟩ := H
          replace H : ((graph_Begin.f l0 t434).bind fun t443 => ((curtilageref13_Right.f k t434 (l0.length : Int)).bind fun t446 => ((curtilageref13_Right.f k t443 (l0.length : Int)).bind fun t447 => (curtilagelaw13_GraphAll.l0 k t432 t434 t440 t443 t446 t447 0)))) = some r := H
          have A13 := Aside0.mk A130
          clear A130
          replace H := Option.bind_eq_some_iff.mp H
          obtain ⟨t443, A140, H⟩ := H
          replace H : ((curtilageref13_Right.f k t434 (l0.length : Int)).bind fun t446 => ((curtilageref13_Right.f k t443 (l0.length : Int)).bind fun t447 => (curtilagelaw13_GraphAll.l0 k t432 t434 t440 t443 t446 t447 0))) = some r := H
          have A14 := Aside0.mk A140
          clear A140
          replace H := Option.bind_eq_some_iff.mp H
          obtain ⟨t446, A150, H⟩ := H
          replace H : ((curtilageref13_Right.f k t443 (l0.length : Int)).bind fun t447 => (curtilagelaw13_GraphAll.l0 k t432 t434 t440 t443 t446 t447 0)) = some r := H
          have A15 := Aside0.mk A150
          clear A150
          replace H := Option.bind_eq_some_iff.mp H
          obtain ⟨t447, A160, H⟩ := H
          replace H : (curtilagelaw13_GraphAll.l0 k t432 t434 t440 t443 t446 t447 0) = some r := H
          have A16 := Aside0.mk A160
          clear A160
          have H' := Aside0.mk H
          clear H
          go_enter Try.func7, Try.ntmps7
          go_wp2_with (first | ((with_reducible refine gate_dst (N := 17) rfl ?_); (with_reducible refine gate_callee (f := 8) rfl ?_); refine goesL_ (some 17) rfl rfl Try.func8 (by kernel_rfl) rfl #[] rfl (by (try simp only [List.map_toArray, List.map_cons, List.map_nil]); first | done | rfl | (simp only [List.length_drop, List.length_take]; rfl)) ?_; (with_reducible refine (curtilagelaw13_awake.calls k  t432 _ A3.out).mono ?_); rintro e w17 ⟨rfl, hb⟩; refine ⟨_, rfl, ?_⟩; have n0_ := Aside0.mk (below_step (by repeat (first | (with_reducible first | exact HB.out | apply below_alloc | apply pw_below_drewN | apply below_drew1) | exact HB.out)) hb); clear HB; have HB := n0_; clear n0_; (try clear hb); (try clear hb2); (try clear hk); (try clear hi)) | ((with_reducible refine gate_dst (N := 19) rfl ?_); (with_reducible refine gate_callee (f := 9) rfl ?_); refine goesL_ (some 19) rfl rfl Try.func9 (by kernel_rfl) rfl #[.slice A0 l0.length c0, .int .i64 20] rfl (by (try simp only [List.map_toArray, List.map_cons, List.map_nil]); first | done | rfl | (simp only [List.length_drop, List.length_take]; rfl)) ?_; (with_reducible refine (curtilageref13_Short.calls k _ _ l0 20 true _ ?side1 ?side2 A4.out).mono ?_); (case side1 => repeat (first | exact (Kd.C_below HR0.out HB.out) | (with_reducible refine Kd.C_alloc ?_ _) | (with_reducible refine Kd.C_drewN ?_ _) | (with_reducible refine Kd.C_drew ?_))); (case side2 => exact HC0.out); rintro e w' ⟨rfl, ⟨nd, rfl⟩⟩; refine ⟨_, rfl, ?_⟩) | ((with_reducible refine gate_dst (N := 26) rfl ?_); (with_reducible refine gate_callee (f := 10) rfl ?_); refine goesL_ (some 26) rfl rfl Try.func10 (by kernel_rfl) rfl #[.slice A0 l0.length c0, .string a1] rfl (by (try simp only [List.map_toArray, List.map_cons, List.map_nil]); first | done | rfl | (simp only [List.length_drop, List.length_take]; rfl)) ?_; (with_reducible refine (graph_Closure.calls _ _ l0 a1 t434 t435 t436 _ ?side1 ?side2 A6.out).mono ?_); (case side1 => repeat (first | exact (Kd.C_below HR0.out (by repeat (first | (with_reducible first | exact HB.out | apply below_alloc | apply pw_below_drewN | apply below_drew1) | exact HB.out))) | (with_reducible refine Kd.C_alloc ?_ _) | (with_reducible refine Kd.C_drewN ?_ _) | (with_reducible refine Kd.C_drew ?_))); (case side2 => exact HC0.out); rintro e w18 ⟨v437, rfl, ho0, hb⟩; refine ⟨_, rfl, ?_⟩; have n0_ := Aside0.mk (Kd.R_lower ho0 (below_size (by repeat (first | (with_reducible first | exact HB.out | apply below_alloc | apply pw_below_drewN | apply below_drew1) | exact HB.out)))); have n1_ := Aside0.mk (below_step (by repeat (first | (with_reducible first | exact HB.out | apply below_alloc | apply pw_below_drewN | apply below_drew1) | exact HB.out)) hb); clear HB; have HO438 := n0_; have HB := n1_; clear n0_ n1_; (try clear hb); (try clear hb2); (try clear hk); (try clear hi); (try clear ho0); obtain ⟨Ao19, co19, eo19⟩ := Kd.R_slice HO438.out; subst eo19; have p439 : 0 ≤ (0 : Int) := (by omega); have q439 : 0 < (t434.length : Int) := of_decide_eq_true (by first | (with_reducible assumption) | assumption); obtain ⟨ad439, e439, hx439_0⟩ := Kd.at_int (Kd.R_reads' HO438.out).2.2 0 p439 q439; cases e439; have qi439 : (0 < t434.length) = True := eq_true (by omega); (try rw [show ((0 : Int)).toNat = 0 from rfl] at hx439_0); (try rw [Addr.add_zero'] at hx439_0); replace p439 := eq_true p439; replace q439 := eq_true q439) | ((with_reducible refine gate_dst (N := 45) rfl ?_); (with_reducible refine gate_callee (f := 20) rfl ?_); refine goesL_ (some 45) rfl rfl Try.func20 (by kernel_rfl) rfl #[.slice A0 l0.length c0, .int .i64 (rd t434 0)] rfl (by (try simp only [List.map_toArray, List.map_cons, List.map_nil]); first | done | rfl | (simp only [List.length_drop, List.length_take]; rfl)) ?_; (with_reducible refine (graph_Reach.calls k _ _ l0 (rd t434 0) t440 _ ?side1 ?side2 A13.out).mono ?_); (case side1 => repeat (first | exact (Kd.C_below HR0.out HB.out) | (with_reducible refine Kd.C_alloc ?_ _) | (with_reducible refine Kd.C_drewN ?_ _) | (with_reducible refine Kd.C_drew ?_))); (case side2 => exact HC0.out); rintro e w20 ⟨v441, rfl, ho0, hb⟩; refine ⟨_, rfl, ?_⟩; have n0_ := Aside0.mk (Kd.R_elder' (by (with_reducible repeat (first | apply Kd.R_alloc | apply Kd.R_drewN | apply Kd.R_drew)); exact HO438.out) (Kd.R_base ho0) hb); have n1_ := Aside0.mk (Kd.R_lower (Kd.R_new' ho0 (Kd.R_lt (by (with_reducible repeat (first | apply Kd.R_alloc | apply Kd.R_drewN | apply Kd.R_drew)); exact HO438.out))) (below_size (by repeat (first | (with_reducible first | exact HB.out | apply below_alloc | apply pw_below_drewN | apply below_drew1) | exact HB.out)))); have n2_ := Aside0.mk (below_step (by repeat (first | (with_reducible first | exact HB.out | apply below_alloc | apply pw_below_drewN | apply below_drew1) | exact HB.out)) hb); clear HO438; clear HB; have HO438 := n0_; have HO442 := n1_; have HB := n2_; clear n0_ n1_ n2_; (try clear hb); (try clear hb2); (try clear hk); (try clear hi); (try clear ho0)) | ((with_reducible refine gate_dst (N := 48) rfl ?_); (with_reducible refine gate_callee (f := 11) rfl ?_); refine goesL_ (some 48) rfl rfl Try.func11 (by kernel_rfl) rfl #[.slice A0 l0.length c0, .slice (some ad439) t434.length co19] rfl (by (try simp only [List.map_toArray, List.map_cons, List.map_nil]); first | done | rfl | (simp only [List.length_drop, List.length_take]; rfl)) ?_; (with_reducible refine (graph_Begin.calls _ _ l0 _ _ t434 t443 _ ?side1 ?side2 ?side3 ?side4 A14.out).mono ?_); (case side1 => repeat (first | exact (Kd.C_below HR0.out HB.out) | (with_reducible refine Kd.C_alloc ?_ _) | (with_reducible refine Kd.C_drewN ?_ _) | (with_reducible refine Kd.C_drew ?_))); (case side2 => exact HC0.out); (case side3 => repeat (first | exact (Kd.R_reads' HO438.out).2.2 | (with_reducible refine Kd.C_alloc ?_ _) | (with_reducible refine Kd.C_drewN ?_ _) | (with_reducible refine Kd.C_drew ?_))); (case side4 => exact (Kd.R_reads' HO438.out).2.1); rintro e w21 ⟨v444, rfl, ho0, hb⟩; refine ⟨_, rfl, ?_⟩; have n0_ := Aside0.mk (Kd.R_elder' (by (with_reducible repeat (first | apply Kd.R_alloc | apply Kd.R_drewN | apply Kd.R_drew)); exact HO438.out) (Kd.R_base ho0) hb); have n1_ := Aside0.mk (Kd.R_elder' (by (with_reducible repeat (first | apply Kd.R_alloc | apply Kd.R_drewN | apply Kd.R_drew)); exact HO442.out) (Kd.R_base ho0) hb); have n2_ := Aside0.mk (Kd.R_lower (Kd.R_new' (Kd.R_new' ho0 (Kd.R_lt (by (with_reducible repeat (first | apply Kd.R_alloc | apply Kd.R_drewN | apply Kd.R_drew)); exact HO438.out))) (Kd.R_lt (by (with_reducible repeat (first | apply Kd.R_alloc | apply Kd.R_drewN | apply Kd.R_drew)); exact HO442.out))) (below_size (by repeat (first | (with_reducible first | exact HB.out | apply below_alloc | apply pw_below_drewN | apply below_drew1) | exact HB.out)))); have n3_ := Aside0.mk (below_step (by repeat (first | (with_reducible first | exact HB.out | apply below_alloc | apply pw_below_drewN | apply below_drew1) | exact HB.out)) hb); clear HO438; clear HO442; clear HB; have HO438 := n0_; have HO442 := n1_; have HO445 := n2_; have HB := n3_; clear n0_ n1_ n2_ n3_; (try clear hb); (try clear hb2); (try clear hk); (try clear hi); (try clear ho0)) | ((with_reducible refine gate_dst (N := 52) rfl ?_); (with_reducible refine gate_callee (f := 13) rfl ?_); refine goesL_ (some 52) rfl rfl Try.func13 (by kernel_rfl) rfl #[.slice (some ad439) t434.length co19, .int .i64 (l0.length : Int)] rfl (by (try simp only [List.map_toArray, List.map_cons, List.map_nil]); first | done | rfl | (simp only [List.length_drop, List.length_take]; rfl)) ?_; (with_reducible refine (curtilageref13_Right.calls k _ _ t434 (l0.length : Int) t446 _ ?side1 ?side2 A15.out).mono ?_); (case side1 => repeat (first | exact (Kd.R_reads' HO438.out).2.2 | (with_reducible refine Kd.C_alloc ?_ _) | (with_reducible refine Kd.C_drewN ?_ _) | (with_reducible refine Kd.C_drew ?_))); (case side2 => exact (Kd.R_reads' HO438.out).2.1); rintro e w' ⟨rfl, ⟨nd, rfl⟩⟩; refine ⟨_, rfl, ?_⟩; obtain ⟨Ao22, co22, eo22⟩ := Kd.R_slice HO445.out; subst eo22) | ((with_reducible refine gate_dst (N := 56) rfl ?_); (with_reducible refine gate_callee (f := 13) rfl ?_); refine goesL_ (some 56) rfl rfl Try.func13 (by kernel_rfl) rfl #[.slice Ao22 t443.length co22, .int .i64 (l0.length : Int)] rfl (by (try simp only [List.map_toArray, List.map_cons, List.map_nil]); first | done | rfl | (simp only [List.length_drop, List.length_take]; rfl)) ?_; (with_reducible refine (curtilageref13_Right.calls k _ _ t443 (l0.length : Int) t447 _ ?side1 ?side2 A16.out).mono ?_); (case side1 => repeat (first | exact (Kd.R_reads' HO445.out).2.2 | (with_reducible refine Kd.C_alloc ?_ _) | (with_reducible refine Kd.C_drewN ?_ _) | (with_reducible refine Kd.C_drew ?_))); (case side2 => exact (Kd.R_reads' HO445.out).2.1); rintro e w' ⟨rfl, ⟨nd, rfl⟩⟩; refine ⟨_, rfl, ?_⟩))
          go_loopg [14] k (fun kq v14 w' => ∃ (x14_1 : Int), v14 = .int .i64 x14_1 ∧ Aside0 (curtilagelaw13_GraphAll.l0 kq t432 t434 t440 t443 t446 t447 x14_1 = some r) ∧ Aside0 (kq ≤ k) ∧ Aside0 (Kd.R (Kd.int .i64) 3 w' w.heap.size (fun k_ => some k_ ≠ (v441 : Value).ownBlock ∧ some k_ ≠ ((.slice Ao22 t443.length co22) : Value).ownBlock) (.slice (some ad439) t434.length co19) t434) ∧ Aside0 (Kd.R (Kd.int .i64) 3 w' w.heap.size (fun k_ => some k_ ≠ ((.slice (some ad439) t434.length co19) : Value).ownBlock ∧ some k_ ≠ ((.slice Ao22 t443.length co22) : Value).ownBlock) v441 t440) ∧ Aside0 (Kd.R (Kd.int .i64) 3 w' w.heap.size (fun k_ => some k_ ≠ ((.slice (some ad439) t434.length co19) : Value).ownBlock ∧ some k_ ≠ (v441 : Value).ownBlock) (.slice Ao22 t443.length co22) t443) ∧ Aside0 (Below w.heap.size w w'))
          case atStart => exact ⟨(0), (by first | rfl | (simp; done) | (simp [*]; done)), H', ⟨Nat.le_refl _⟩, ⟨by (with_reducible repeat (first | apply Kd.R_alloc | apply Kd.R_drewN | apply Kd.R_drew)); exact Kd.R_mono HO438.out (fun _ hk => ⟨hk.1.2, hk.2⟩)⟩, ⟨by (with_reducible repeat (first | apply Kd.R_alloc | apply Kd.R_drewN | apply Kd.R_drew)); exact Kd.R_mono HO442.out (fun _ hk => ⟨hk.1.2, hk.2⟩)⟩, ⟨by (with_reducible repeat (first | apply Kd.R_alloc | apply Kd.R_drewN | apply Kd.R_drew)); exact Kd.R_mono HO445.out (fun _ hk => ⟨hk.1.2, hk.2⟩)⟩, ⟨by repeat (first | (with_reducible first | exact HB.out | apply below_alloc | apply pw_below_drewN | apply below_drew1) | exact HB.out)⟩⟩
          case round =>
            clear H'
            try clear c1
            try clear c2
            try clear p2
            try clear p4
            try clear q4
            try clear hx4
            try clear qi4
            try clear c5
            try clear c7
            try clear c7b0
            try clear c7b1
            try clear c8
            try clear c8b0
            try clear c8b1
            try clear c8b2
            try clear c9
            try clear c10
            try clear c11
            try clear c12
            try clear c12b0
            try clear c12b1
            try clear c13
            try clear c20
            try clear hx439_0
            try clear p439
            try clear q439
            obtain ⟨x14_1, rfl, HA, HK1, HO_7, HO_10, HO_11, HB⟩ := hrel
            cases gk with
            | zero => exact absurd HA.out (by simp [curtilagelaw13_GraphAll.l0])
            | succ k1 =>
              have H := HA.out
              clear HA
              simp only [curtilagelaw13_GraphAll.l0] at H
              by_cases c23 : x14_1 < (t440.length : Int)
              · rw [if_pos c23] at H
                have c23b0 : decide (x14_1 < (t440.length : Int)) = true := decide_eq_true c23
                clear c23
                by_cases c24 : 0 ≤ x14_1
                · rw [if_pos c24] at H
                  have c24b0 : decide (0 ≤ x14_1) = true := decide_eq_true c24
                  clear c24
                  replace H := Option.bind_eq_some_iff.mp H
                  obtain ⟨t449, A250, H⟩ := H
                  replace H : ((curtilageref13_Has.f k1 t443 (rd t440 x14_1)).bind fun t451 => (if t449 = true then (if t451 = true then (curtilagelaw13_GraphAll.l0 k1 t432 t434 t440 t443 t446 t447 (wrap64 (x14_1 + 1))) else (some false)) else (some false))) = some r := H
                  have A25 := Aside0.mk A250
                  clear A250
                  replace H := Option.bind_eq_some_iff.mp H
                  obtain ⟨t451, A260, H⟩ := H
                  replace H : (if t449 = true then (if t451 = true then (curtilagelaw13_GraphAll.l0 k1 t432 t434 t440 t443 t446 t447 (wrap64 (x14_1 + 1))) else (some false)) else (some false)) = some r := H
                  have A26 := Aside0.mk A260
                  clear A260
                  by_cases c27 : t449 = true
                  · subst c27
                    have H1 : (if t451 = true then (curtilagelaw13_GraphAll.l0 k1 t432 t434 t440 t443 t446 t447 (wrap64 (x14_1 + 1))) else (some false)) = some r := by rw [if_pos rfl] at H; exact H
                    clear H
                    have H := H1
                    clear H1
                    by_cases c28 : t451 = true
                    · subst c28
                      have H1 : (curtilagelaw13_GraphAll.l0 k1 t432 t434 t440 t443 t446 t447 (wrap64 (x14_1 + 1))) = some r := by rw [if_pos rfl] at H; exact H
                      clear H
                      have H := H1
                      clear H1
                      have H' := Aside0.mk H
                      clear H
                      obtain ⟨Ao29, co29, eo29⟩ := Kd.R_slice HO_10.out
                      subst eo29
                      have p448 : 0 ≤ (x14_1 : Int) := of_decide_eq_true (by first | (with_reducible assumption) | assumption)
                      have q448 : x14_1 < (t440.length : Int) := of_decide_eq_true (by first | (with_reducible assumption) | assumption)
                      obtain ⟨ad448, e448, hx448_0⟩ := Kd.at_int (Kd.R_reads' HO_10.out).2.2 x14_1 p448 q448
                      cases e448
                      replace p448 := eq_true p448
                      replace q448 := eq_true q448
                      go_wp2_with (first | ((with_reducible refine gate_dst (N := 68) rfl ?_); (with_reducible refine gate_callee (f := 17) rfl ?_); refine goesL_ (some 68) rfl rfl Try.func17 (by kernel_rfl) rfl #[.slice (some ad439) t434.length co19, .int .i64 (rd t440 x14_1)] rfl (by (try simp only [List.map_toArray, List.map_cons, List.map_nil]); first | done | rfl | (simp only [List.length_drop, List.length_take]; rfl)) ?_; (with_reducible refine (curtilageref13_Has.calls k1 _ _ t434 (rd t440 x14_1) true _ ?side1 ?side2 A25.out).mono ?_); (case side1 => repeat (first | exact (Kd.R_reads' HO_7.out).2.2 | (with_reducible refine Kd.C_alloc ?_ _) | (with_reducible refine Kd.C_drewN ?_ _) | (with_reducible refine Kd.C_drew ?_))); (case side2 => exact (Kd.R_reads' HO_7.out).2.1); rintro e w' ⟨rfl, ⟨nd, rfl⟩⟩; refine ⟨_, rfl, ?_⟩; have p450 : 0 ≤ (x14_1 : Int) := of_decide_eq_true (by first | (with_reducible assumption) | assumption); have q450 : x14_1 < (t440.length : Int) := of_decide_eq_true (by first | (with_reducible assumption) | assumption); obtain ⟨ad450, e450, hx450_0⟩ := Kd.at_int (Kd.R_reads' HO_10.out).2.2 x14_1 p450 q450; obtain rfl : ad448 = ad450 := (by injection e450); replace p450 := eq_true p450; replace q450 := eq_true q450) | ((with_reducible refine gate_dst (N := 74) rfl ?_); (with_reducible refine gate_callee (f := 17) rfl ?_); refine goesL_ (some 74) rfl rfl Try.func17 (by kernel_rfl) rfl #[.slice Ao22 t443.length co22, .int .i64 (rd t440 x14_1)] rfl (by (try simp only [List.map_toArray, List.map_cons, List.map_nil]); first | done | rfl | (simp only [List.length_drop, List.length_take]; rfl)) ?_; (with_reducible refine (curtilageref13_Has.calls k1 _ _ t443 (rd t440 x14_1) true _ ?side1 ?side2 A26.out).mono ?_); (case side1 => repeat (first | exact (Kd.R_reads' HO_11.out).2.2 | (with_reducible refine Kd.C_alloc ?_ _) | (with_reducible refine Kd.C_drewN ?_ _) | (with_reducible refine Kd.C_drew ?_))); (case side2 => exact (Kd.R_reads' HO_11.out).2.1); rintro e w' ⟨rfl, ⟨nd, rfl⟩⟩; refine ⟨_, rfl, ?_⟩))
                      go_roundg k1
                      case measure => have := HK1.out; omega
                      case rel => exact ⟨(wrap64 (x14_1 + 1)), (by first | rfl | (simp; done) | (simp [*]; done)), H', ⟨by have := HK1.out; omega⟩, ⟨by (with_reducible repeat (first | apply Kd.R_alloc | apply Kd.R_drewN | apply Kd.R_drew)); exact HO_7.out⟩, ⟨by (with_reducible repeat (first | apply Kd.R_alloc | apply Kd.R_drewN | apply Kd.R_drew)); exact HO_10.out⟩, ⟨by (with_reducible repeat (first | apply Kd.R_alloc | apply Kd.R_drewN | apply Kd.R_drew)); exact HO_11.out⟩, ⟨by repeat (first | (with_reducible first | exact HB.out | apply below_alloc | apply pw_below_drewN | apply below_drew1) | exact HB.out)⟩⟩
                    · replace c28 := Bool.eq_false_iff.mpr c28
                      subst c28
                      have H1 : (some false) = some r := by rw [if_neg (show ¬ (false = true) by decide)] at H; exact H
                      clear H
                      have H := H1
                      clear H1
                      exact absurd ((Option.some.inj H).trans HT.out) (by decide)
                  · replace c27 := Bool.eq_false_iff.mpr c27
                    subst c27
                    have H1 : (some false) = some r := by rw [if_neg (show ¬ (false = true) by decide)] at H; exact H
                    clear H
                    have H := H1
                    clear H1
                    exact absurd ((Option.some.inj H).trans HT.out) (by decide)
                · rw [if_neg c24] at H
                  exact absurd H (by simp)
              · rw [if_neg c23] at H
                have c23b0 : decide (x14_1 < (t440.length : Int)) = false := decide_eq_false c23
                clear c23
                by_cases c32 : t432 = true
                · subst c32
                  have H1 : (if t446 = true then (if t447 = true then (if (t440.length : Int) = (t434.length : Int) then (some ((t443.length : Int) == (t434.length : Int))) else (some false)) else (some false)) else (some false)) = some r := by rw [if_pos rfl] at H; exact H
                  clear H
                  have H := H1
                  clear H1
                  by_cases c33 : t446 = true
                  · subst c33
                    have H1 : (if t447 = true then (if (t440.length : Int) = (t434.length : Int) then (some ((t443.length : Int) == (t434.length : Int))) else (some false)) else (some false)) = some r := by rw [if_pos rfl] at H; exact H
                    clear H
                    have H := H1
                    clear H1
                    by_cases c34 : t447 = true
                    · subst c34
                      have H1 : (if (t440.length : Int) = (t434.length : Int) then (some ((t443.length : Int) == (t434.length : Int))) else (some false)) = some r := by rw [if_pos rfl] at H; exact H
                      clear H
                      have H := H1
                      clear H1
                      by_cases c35 : (t440.length : Int) = (t434.length : Int)
                      · rw [if_pos c35] at H
                        have c35b0 : ((t440.length : Int) == (t434.length : Int)) = true := beq_iff_eq.mpr c35
                        have c35b1 : ((t440.length : Int) != (t434.length : Int)) = false := bne_eq_false_iff_eq.mpr c35
                        have c35b2 : (t440.length == t434.length) = true := by first | simpa using c35 | (simp at c35 ⊢; omega)
                        clear c35
                        obtain rfl := Option.some.inj H
                        obtain ⟨Ao36, co36, eo36⟩ := Kd.R_slice HO_10.out
                        subst eo36
                        go_wp2
                        go_ret
                        exact ⟨by first | rfl | (simp [errW_none, errW_some] <;> rfl) | (simp [*, errW_none, errW_some] <;> rfl), by repeat (first | (with_reducible first | exact HB.out | apply below_alloc | apply pw_below_drewN | apply below_drew1) | exact HB.out)⟩
                      · rw [if_neg c35] at H
                        have c35b0 : ((t440.length : Int) == (t434.length : Int)) = false := beq_eq_false_iff_ne.mpr c35
                        have c35b1 : ((t440.length : Int) != (t434.length : Int)) = true := bne_iff_ne.mpr c35
                        have c35b2 : (t440.length == t434.length) = false := by first | simpa using c35 | (simp at c35 ⊢; omega)
                        exact absurd ((Option.some.inj H).trans HT.out) (by decide)
                    · replace c34 := Bool.eq_false_iff.mpr c34
                      subst c34
                      have H1 : (some false) = some r := by rw [if_neg (show ¬ (false = true) by decide)] at H; exact H
                      clear H
                      have H := H1
                      clear H1
                      exact absurd ((Option.some.inj H).trans HT.out) (by decide)
                  · replace c33 := Bool.eq_false_iff.mpr c33
                    subst c33
                    have H1 : (some false) = some r := by rw [if_neg (show ¬ (false = true) by decide)] at H; exact H
                    clear H
                    have H := H1
                    clear H1
                    exact absurd ((Option.some.inj H).trans HT.out) (by decide)
                · replace c32 := Bool.eq_false_iff.mpr c32
                  subst c32
                  have H1 : (some false) = some r := by rw [if_neg (show ¬ (false = true) by decide)] at H; exact H
                  clear H
                  have H := H1
                  clear H1
                  exact absurd ((Option.some.inj H).trans HT.out) (by decide)
        · rw [if_neg c12] at H
          exact absurd H (by simp)
    · rw [if_neg c7] at H
      have c7b0 : (t436 == 0) = false := beq_eq_false_iff_ne.mpr c7
      have c7b1 : (t436 != 0) = true := bne_iff_ne.mpr c7
      by_cases c41 : t432 = true
      · subst c41
        have H1 : (some ((t434.length : Int) == 0)) = some r := by rw [if_pos rfl] at H; exact H
        clear H
        have H := H1
        clear H1
        obtain rfl := Option.some.inj H
        go_enter Try.func7, Try.ntmps7
        go_wp2_with (first | ((with_reducible refine gate_dst (N := 17) rfl ?_); (with_reducible refine gate_callee (f := 8) rfl ?_); refine goesL_ (some 17) rfl rfl Try.func8 (by kernel_rfl) rfl #[] rfl (by (try simp only [List.map_toArray, List.map_cons, List.map_nil]); first | done | rfl | (simp only [List.length_drop, List.length_take]; rfl)) ?_; (with_reducible refine (curtilagelaw13_awake.calls k  true _ A3.out).mono ?_); rintro e w42 ⟨rfl, hb⟩; refine ⟨_, rfl, ?_⟩; have n0_ := Aside0.mk (below_step (by repeat (first | (with_reducible first | exact HB.out | apply below_alloc | apply pw_below_drewN | apply below_drew1) | exact HB.out)) hb); clear HB; have HB := n0_; clear n0_; (try clear hb); (try clear hb2); (try clear hk); (try clear hi)) | ((with_reducible refine gate_dst (N := 19) rfl ?_); (with_reducible refine gate_callee (f := 9) rfl ?_); refine goesL_ (some 19) rfl rfl Try.func9 (by kernel_rfl) rfl #[.slice A0 l0.length c0, .int .i64 20] rfl (by (try simp only [List.map_toArray, List.map_cons, List.map_nil]); first | done | rfl | (simp only [List.length_drop, List.length_take]; rfl)) ?_; (with_reducible refine (curtilageref13_Short.calls k _ _ l0 20 true _ ?side1 ?side2 A4.out).mono ?_); (case side1 => repeat (first | exact (Kd.C_below HR0.out HB.out) | (with_reducible refine Kd.C_alloc ?_ _) | (with_reducible refine Kd.C_drewN ?_ _) | (with_reducible refine Kd.C_drew ?_))); (case side2 => exact HC0.out); rintro e w' ⟨rfl, ⟨nd, rfl⟩⟩; refine ⟨_, rfl, ?_⟩) | ((with_reducible refine gate_dst (N := 26) rfl ?_); (with_reducible refine gate_callee (f := 10) rfl ?_); refine goesL_ (some 26) rfl rfl Try.func10 (by kernel_rfl) rfl #[.slice A0 l0.length c0, .string a1] rfl (by (try simp only [List.map_toArray, List.map_cons, List.map_nil]); first | done | rfl | (simp only [List.length_drop, List.length_take]; rfl)) ?_; (with_reducible refine (graph_Closure.calls _ _ l0 a1 t434 t435 t436 _ ?side1 ?side2 A6.out).mono ?_); (case side1 => repeat (first | exact (Kd.C_below HR0.out (by repeat (first | (with_reducible first | exact HB.out | apply below_alloc | apply pw_below_drewN | apply below_drew1) | exact HB.out))) | (with_reducible refine Kd.C_alloc ?_ _) | (with_reducible refine Kd.C_drewN ?_ _) | (with_reducible refine Kd.C_drew ?_))); (case side2 => exact HC0.out); rintro e w43 ⟨v437, rfl, ho0, hb⟩; refine ⟨_, rfl, ?_⟩; have n0_ := Aside0.mk (Kd.R_lower ho0 (below_size (by repeat (first | (with_reducible first | exact HB.out | apply below_alloc | apply pw_below_drewN | apply below_drew1) | exact HB.out)))); have n1_ := Aside0.mk (below_step (by repeat (first | (with_reducible first | exact HB.out | apply below_alloc | apply pw_below_drewN | apply below_drew1) | exact HB.out)) hb); clear HB; have HO438 := n0_; have HB := n1_; clear n0_ n1_; (try clear hb); (try clear hb2); (try clear hk); (try clear hi); (try clear ho0); obtain ⟨Ao44, co44, eo44⟩ := Kd.R_slice HO438.out; subst eo44))
        go_ret
        exact ⟨by first | rfl | (simp [errW_none, errW_some] <;> rfl) | (simp [*, errW_none, errW_some] <;> rfl), by repeat (first | (with_reducible first | exact HB.out | apply below_alloc | apply pw_below_drewN | apply below_drew1) | exact HB.out)⟩
      · replace c41 := Bool.eq_false_iff.mpr c41
        subst c41
        have H1 : (some false) = some r := by rw [if_neg (show ¬ (false = true) by decide)] at H; exact H
        clear H
        have H := H1
        clear H1
        exact absurd ((Option.some.inj H).trans HT.out) (by decide)
  · replace c5 := Bool.eq_false_iff.mpr c5
    subst c5
    have H1 : (some t432) = some r := by rw [if_neg (show ¬ (false = true) by decide)] at H; exact H
    clear H
    have H := H1
    clear H1
    obtain rfl := Option.some.inj H
    go_enter Try.func7, Try.ntmps7
    go_wp2_with (first | ((with_reducible refine gate_dst (N := 17) rfl ?_); (with_reducible refine gate_callee (f := 8) rfl ?_); refine goesL_ (some 17) rfl rfl Try.func8 (by kernel_rfl) rfl #[] rfl (by (try simp only [List.map_toArray, List.map_cons, List.map_nil]); first | done | rfl | (simp only [List.length_drop, List.length_take]; rfl)) ?_; (with_reducible refine (curtilagelaw13_awake.calls k  t432 _ A3.out).mono ?_); rintro e w47 ⟨rfl, hb⟩; refine ⟨_, rfl, ?_⟩; have n0_ := Aside0.mk (below_step (by repeat (first | (with_reducible first | exact HB.out | apply below_alloc | apply pw_below_drewN | apply below_drew1) | exact HB.out)) hb); clear HB; have HB := n0_; clear n0_; (try clear hb); (try clear hb2); (try clear hk); (try clear hi)) | ((with_reducible refine gate_dst (N := 19) rfl ?_); (with_reducible refine gate_callee (f := 9) rfl ?_); refine goesL_ (some 19) rfl rfl Try.func9 (by kernel_rfl) rfl #[.slice A0 l0.length c0, .int .i64 20] rfl (by (try simp only [List.map_toArray, List.map_cons, List.map_nil]); first | done | rfl | (simp only [List.length_drop, List.length_take]; rfl)) ?_; (with_reducible refine (curtilageref13_Short.calls k _ _ l0 20 false _ ?side1 ?side2 A4.out).mono ?_); (case side1 => repeat (first | exact (Kd.C_below HR0.out HB.out) | (with_reducible refine Kd.C_alloc ?_ _) | (with_reducible refine Kd.C_drewN ?_ _) | (with_reducible refine Kd.C_drew ?_))); (case side2 => exact HC0.out); rintro e w' ⟨rfl, ⟨nd, rfl⟩⟩; refine ⟨_, rfl, ?_⟩))
    go_ret
    exact ⟨by first | rfl | (simp [errW_none, errW_some] <;> rfl) | (simp [*, errW_none, errW_some] <;> rfl), by repeat (first | (with_reducible first | exact HB.out | apply below_alloc | apply pw_below_drewN | apply below_drew1) | exact HB.out)⟩

end Go.Proofs.Ytndmfjdoekdleaa.P
