/- What functions of the program, and of its laws, give, each proved of its code by a walk; no condition. -/
import Derived.Test.YtndmfjdoekdleaaKGraphClosesPx0
import Derived.Test.YtndmfjdoekdleaaKGraphClosesPx1
import Derived.Test.YtndmfjdoekdleaaKGraphClosesPx3
import Derived.Test.YtndmfjdoekdleaaKGraphClosesPx4
import Derived.Test.YtndmfjdoekdleaaKGraphClosesPx6
import Derived.Test.YtndmfjdoekdleaaKGraphClosesPx8
import Derived.Test.YtndmfjdoekdleaaKGraphClosesPx10
namespace Go.Proofs.Ytndmfjdoekdleaa.P
open Go.RowKit Go.Proofs.YtndmfjdoekdleaaW.PrintWords Go.Proofs.YtndmfjdoekdleaaW.PrintLast Go.Proofs.YtndmfjdoekdleaaW.PrintMore
attribute [local go_sem] max2_int min2_int max_two min_two max_three min_three max_four min_four   -- for this text's walks alone
set_option linter.unusedVariables false
set_option linter.unusedSimpArgs false

def curtilagelaw13_GraphCloses.f (k : Nat) (l0 : List (S29)) (a1 : ByteArray) (a2 : Int) : Option (Bool) := (curtilagelaw13_awake.f k).bind fun t410 => ((curtilageref13_Short.f k l0 20).bind fun t411 => (if t411 = true then ((graph_Closure.f l0 a1).bind fun bt412 => ((curtilageref13_Closure.f k l0 a1).bind fun bt417 => ((graph_Reach.f k l0 a2).bind fun t422 => ((graph_Find.f l0 a1).bind fun t425 => (if t410 = true then (if bt412.2.2 = bt417.2.2 then (if bt412.2.1.toList = bt417.2.1.toList then ((curtilageref10_Numbers.f k bt412.1 bt417.1).bind fun t426 => (if t426 = true then ((curtilageref13_Reach.f k l0 a2).bind fun t427 => ((curtilageref10_Numbers.f k t422 t427).bind fun t430 => (if t430 = true then ((curtilageref13_Find.f k l0 a1).bind fun t431 => (some (t425 == t431))) else (some false)))) else (some false))) else (some false)) else (some false)) else (some false)))))) else (some t410)))
theorem curtilagelaw13_GraphCloses.mono : ∀ a0 a1 a2 k, LeO (curtilagelaw13_GraphCloses.f k a0 a1 a2) (curtilagelaw13_GraphCloses.f (k + 1) a0 a1 a2) := by
  intro a0 a1 a2 k
  unfold curtilagelaw13_GraphCloses.f
  repeat' first
      | (with_reducible exact curtilagelaw13_awake.mono _)
      | (with_reducible exact curtilageref10_Numbers.mono _ _ _)
      | (with_reducible exact curtilageref13_Closure.mono _ _ _)
      | (with_reducible exact curtilageref13_Find.mono _ _ _)
      | (with_reducible exact curtilageref13_Reach.mono _ _ _)
      | (with_reducible exact curtilageref13_Short.mono _ _ _)
      | (with_reducible exact graph_Reach.mono _ _ _)
      | (with_reducible exact LeO.refl _)
      | (with_reducible exact LeO.none _)
      | (with_reducible refine LeO.ite ?_ ?_)
      | (with_reducible refine LeO.bind ?_ (fun _ => ?_))
      | exact curtilagelaw13_awake.mono _
      | exact curtilageref10_Numbers.mono _ _ _
      | exact curtilageref13_Closure.mono _ _ _
      | exact curtilageref13_Find.mono _ _ _
      | exact curtilageref13_Reach.mono _ _ _
      | exact curtilageref13_Short.mono _ _ _
      | exact graph_Reach.mono _ _ _
      | exact LeO.none _
      | refine LeO.ite ?_ ?_
      | refine LeO.bind ?_ (fun _ => ?_)
set_option maxHeartbeats 8000000 in
set_option maxRecDepth 100000 in
theorem curtilagelaw13_GraphCloses.calls (k : Nat) (A0 : Option Addr) (c0 : Nat) (l0 : List (S29)) (a1 : ByteArray) (a2 : Int) (r : Bool) (w : World) (hr0 : Kd.C k29 w A0 l0.length l0) (hc0 : l0.length ≤ c0) (h : curtilagelaw13_GraphCloses.f k l0 a1 a2 = some r) (hr0 : r = true) :
    Calls Try.prog 6 #[.slice A0 l0.length c0, .string a1, .int .i64 a2] w fun e w' => e = .returned (.bool r) ∧ Below w.heap.size w w' := by
  have HT := Aside0.mk hr0
  clear hr0
  have HR0 := Aside0.mk hr0
  have HC0 := Aside0.mk hc0
  clear hr0 hc0
  have HB := Aside0.mk (Below.refl w.heap.size w)
  have H : ((curtilagelaw13_awake.f k).bind fun t410 => ((curtilageref13_Short.f k l0 20).bind fun t411 => (if t411 = true then ((graph_Closure.f l0 a1).bind fun bt412 => ((curtilageref13_Closure.f k l0 a1).bind fun bt417 => ((graph_Reach.f k l0 a2).bind fun t422 => ((graph_Find.f l0 a1).bind fun t425 => (if t410 = true then (if bt412.2.2 = bt417.2.2 then (if bt412.2.1.toList = bt417.2.1.toList then ((curtilageref10_Numbers.f k bt412.1 bt417.1).bind fun t426 => (if t426 = true then ((curtilageref13_Reach.f k l0 a2).bind fun t427 => ((curtilageref10_Numbers.f k t422 t427).bind fun t430 => (if t430 = true then ((curtilageref13_Find.f k l0 a1).bind fun t431 => (some (t425 == t431))) else (some false)))) else (some false))) else (some false)) else (some false)) else (some false)))))) else (some t410)))) = some r := h
  clear h
  replace H := Option.bind_eq_some_iff.mp H
  obtain ⟨t410, A40, H⟩ := H
  replace H : ((curtilageref13_Short.f k l0 20).bind fun t411 => (if t411 = true then ((graph_Closure.f l0 a1).bind fun bt412 => ((curtilageref13_Closure.f k l0 a1).bind fun bt417 => ((graph_Reach.f k l0 a2).bind fun t422 => ((graph_Find.f l0 a1).bind fun t425 => (if t410 = true then (if bt412.2.2 = bt417.2.2 then (if bt412.2.1.toList = bt417.2.1.toList then ((curtilageref10_Numbers.f k bt412.1 bt417.1).bind fun t426 => (if t426 = true then ((curtilageref13_Reach.f k l0 a2).bind fun t427 => ((curtilageref10_Numbers.f k t422 t427).bind fun t430 => (if t430 = true then ((curtilageref13_Find.f k l0 a1).bind fun t431 => (some (t425 == t431))) else (some false)))) else (some false))) else (some false)) else (some false)) else (some false)))))) else (some t410))) = some r := H
  have A4 := Aside0.mk A40
  clear A40
  replace H := Option.bind_eq_some_iff.mp H
  obtain ⟨t411, A50, H⟩ := H
  replace H : (if t411 = true then ((graph_Closure.f l0 a1).bind fun bt412 => ((curtilageref13_Closure.f k l0 a1).bind fun bt417 => ((graph_Reach.f k l0 a2).bind fun t422 => ((graph_Find.f l0 a1).bind fun t425 => (if t410 = true then (if bt412.2.2 = bt417.2.2 then (if bt412.2.1.toList = bt417.2.1.toList then ((curtilageref10_Numbers.f k bt412.1 bt417.1).bind fun t426 => (if t426 = true then ((curtilageref13_Reach.f k l0 a2).bind fun t427 => ((curtilageref10_Numbers.f k t422 t427).bind fun t430 => (if t430 = true then ((curtilageref13_Find.f k l0 a1).bind fun t431 => (some (t425 == t431))) else (some false)))) else (some false))) else (some false)) else (some false)) else (some false)))))) else (some t410)) = some r := H
  have A5 := Aside0.mk A50
  clear A50
  by_cases c6 : t411 = true
  · subst c6
    have H1 : ((graph_Closure.f l0 a1).bind fun bt412 => ((curtilageref13_Closure.f k l0 a1).bind fun bt417 => ((graph_Reach.f k l0 a2).bind fun t422 => ((graph_Find.f l0 a1).bind fun t425 => (if t410 = true then (if bt412.2.2 = bt417.2.2 then (if bt412.2.1.toList = bt417.2.1.toList then ((curtilageref10_Numbers.f k bt412.1 bt417.1).bind fun t426 => (if t426 = true then ((curtilageref13_Reach.f k l0 a2).bind fun t427 => ((curtilageref10_Numbers.f k t422 t427).bind fun t430 => (if t430 = true then ((curtilageref13_Find.f k l0 a1).bind fun t431 => (some (t425 == t431))) else (some false)))) else (some false))) else (some false)) else (some false)) else (some false)))))) = some r := by rw [if_pos rfl] at H; exact H
    clear H
    have H := H1
    clear H1
    replace H := Option.bind_eq_some_iff.mp H
    obtain ⟨⟨t412, t413, t414⟩, A70, H⟩ := H
    replace H : ((curtilageref13_Closure.f k l0 a1).bind fun bt417 => ((graph_Reach.f k l0 a2).bind fun t422 => ((graph_Find.f l0 a1).bind fun t425 => (if t410 = true then (if t414 = bt417.2.2 then (if t413.toList = bt417.2.1.toList then ((curtilageref10_Numbers.f k t412 bt417.1).bind fun t426 => (if t426 = true then ((curtilageref13_Reach.f k l0 a2).bind fun t427 => ((curtilageref10_Numbers.f k t422 t427).bind fun t430 => (if t430 = true then ((curtilageref13_Find.f k l0 a1).bind fun t431 => (some (t425 == t431))) else (some false)))) else (some false))) else (some false)) else (some false)) else (some false))))) = some r := H
    have A7 := Aside0.mk A70
    clear A70
    replace H := Option.bind_eq_some_iff.mp H
    obtain ⟨⟨t417, t418, t419⟩, A80, H⟩ := H
    replace H : ((graph_Reach.f k l0 a2).bind fun t422 => ((graph_Find.f l0 a1).bind fun t425 => (if t410 = true then (if t414 = t419 then (if t413.toList = t418.toList then ((curtilageref10_Numbers.f k t412 t417).bind fun t426 => (if t426 = true then ((curtilageref13_Reach.f k l0 a2).bind fun t427 => ((curtilageref10_Numbers.f k t422 t427).bind fun t430 => (if t430 = true then ((curtilageref13_Find.f k l0 a1).bind fun t431 => (some (t425 == t431))) else (some false)))) else (some false))) else (some false)) else (some false)) else (some false)))) = some r := H
    have A8 := Aside0.mk A80
    clear A80
    replace H := Option.bind_eq_some_iff.mp H
    obtain ⟨t422, A90, H⟩ := H
    replace H : ((graph_Find.f l0 a1).bind fun t425 => (if t410 = true then (if t414 = t419 then (if t413.toList = t418.toList then ((curtilageref10_Numbers.f k t412 t417).bind fun t426 => (if t426 = true then ((curtilageref13_Reach.f k l0 a2).bind fun t427 => ((curtilageref10_Numbers.f k t422 t427).bind fun t430 => (if t430 = true then ((curtilageref13_Find.f k l0 a1).bind fun t431 => (some (t425 == t431))) else (some false)))) else (some false))) else (some false)) else (some false)) else (some false))) = some r := H
    have A9 := Aside0.mk A90
    clear A90
    replace H := Option.bind_eq_some_iff.mp H
    obtain ⟨t425, A100, H⟩ := H
    replace H : (if t410 = true then (if t414 = t419 then (if t413.toList = t418.toList then ((curtilageref10_Numbers.f k t412 t417).bind fun t426 => (if t426 = true then ((curtilageref13_Reach.f k l0 a2).bind fun t427 => ((curtilageref10_Numbers.f k t422 t427).bind fun t430 => (if t430 = true then ((curtilageref13_Find.f k l0 a1).bind fun t431 => (some (t425 == t431))) else (some false)))) else (some false))) else (some false)) else (some false)) else (some false)) = some r := H
    have A10 := Aside0.mk A100
    clear A100
    by_cases c11 : t410 = true
    · subst c11
      have H1 : (if t414 = t419 then (if t413.toList = t418.toList then ((curtilageref10_Numbers.f k t412 t417).bind fun t426 => (if t426 = true then ((curtilageref13_Reach.f k l0 a2).bind fun t427 => ((curtilageref10_Numbers.f k t422 t427).bind fun t430 => (if t430 = true then ((curtilageref13_Find.f k l0 a1).bind fun t431 => (some (t425 == t431))) else (some false)))) else (some false))) else (some false)) else (some false)) = some r := by rw [if_pos rfl] at H; exact H
      clear H
      have H := H1
      clear H1
      by_cases c12 : t414 = t419
      · rw [if_pos c12] at H
        have c12b0 : (t414 == t419) = true := beq_iff_eq.mpr c12
        have c12b1 : (t414 != t419) = false := bne_eq_false_iff_eq.mpr c12
        clear c12
        by_cases c13 : t413.toList = t418.toList
        · rw [if_pos c13] at H
          have c13b0 : (t413.toList == t418.toList) = true := beq_iff_eq.mpr c13
          have c13b1 : (t413.toList != t418.toList) = false := bne_eq_false_iff_eq.mpr c13
          clear c13
          replace H := Option.bind_eq_some_iff.mp H
          obtain ⟨t426, A140, H⟩ := H
          replace H : (if t426 = true then ((curtilageref13_Reach.f k l0 a2).bind fun t427 => ((curtilageref10_Numbers.f k t422 t427).bind fun t430 => (if t430 = true then ((curtilageref13_Find.f k l0 a1).bind fun t431 => (some (t425 == t431))) else (some false)))) else (some false)) = some r := H
          have A14 := Aside0.mk A140
          clear A140
          by_cases c15 : t426 = true
          · subst c15
            have H1 : ((curtilageref13_Reach.f k l0 a2).bind fun t427 => ((curtilageref10_Numbers.f k t422 t427).bind fun t430 => (if t430 = true then ((curtilageref13_Find.f k l0 a1).bind fun t431 => (some (t425 == t431))) else (some false)))) = some r := by rw [if_pos rfl] at H; exact H
            clear H
            have H := H1
            clear H1
            replace H := Option.bind_eq_some_iff.mp H
            obtain ⟨t427, A160, H⟩ := H
            replace H : ((curtilageref10_Numbers.f k t422 t427).bind fun t430 => (if t430 = true then ((curtilageref13_Find.f k l0 a1).bind fun t431 => (some (t425 == t431))) else (some false))) = some r := H
            have A16 := Aside0.mk A160
            clear A160
            replace H := Option.bind_eq_some_iff.mp H
            obtain ⟨t430, A170, H⟩ := H
            replace H : (if t430 = true then ((curtilageref13_Find.f k l0 a1).bind fun t431 => (some (t425 == t431))) else (some false)) = some r := H
            have A17 := Aside0.mk A170
            clear A170
            by_cases c18 : t430 = true
            · subst c18
              have H1 : ((curtilageref13_Find.f k l0 a1).bind fun t431 => (some (t425 == t431))) = some r := by rw [if_pos rfl] at H; exact H
              clear H
              have H := H1
              clear H1
              replace H := Option.bind_eq_some_iff.mp H
              obtain ⟨t431, A190, H⟩ := H
              replace H : (some (t425 == t431)) = some r := H
              have A19 := Aside0.mk A190
              clear A190
              obtain rfl := Option.some.inj H
              go_enter Try.func6, Try.ntmps6
              go_wp2_with (first | ((with_reducible refine gate_dst (N := 17) rfl ?_); (with_reducible refine gate_callee (f := 8) rfl ?_); refine goesL_ (some 17) rfl rfl Try.func8 (by kernel_rfl) rfl #[] rfl (by (try simp only [List.map_toArray, List.map_cons, List.map_nil]); first | done | rfl | (simp only [List.length_drop, List.length_take]; rfl)) ?_; (with_reducible refine (curtilagelaw13_awake.calls k  true _ A4.out).mono ?_); rintro e w20 ⟨rfl, hb⟩; refine ⟨_, rfl, ?_⟩; have n0_ := Aside0.mk (below_step (by repeat (first | (with_reducible first | exact HB.out | apply below_alloc | apply pw_below_drewN | apply below_drew1) | exact HB.out)) hb); clear HB; have HB := n0_; clear n0_; (try clear hb); (try clear hb2); (try clear hk); (try clear hi)) | ((with_reducible refine gate_dst (N := 19) rfl ?_); (with_reducible refine gate_callee (f := 9) rfl ?_); refine goesL_ (some 19) rfl rfl Try.func9 (by kernel_rfl) rfl #[.slice A0 l0.length c0, .int .i64 20] rfl (by (try simp only [List.map_toArray, List.map_cons, List.map_nil]); first | done | rfl | (simp only [List.length_drop, List.length_take]; rfl)) ?_; (with_reducible refine (curtilageref13_Short.calls k _ _ l0 20 true _ ?side1 ?side2 A5.out).mono ?_); (case side1 => repeat (first | exact (Kd.C_below HR0.out HB.out) | (with_reducible refine Kd.C_alloc ?_ _) | (with_reducible refine Kd.C_drewN ?_ _) | (with_reducible refine Kd.C_drew ?_))); (case side2 => exact HC0.out); rintro e w' ⟨rfl, ⟨nd, rfl⟩⟩; refine ⟨_, rfl, ?_⟩) | ((with_reducible refine gate_dst (N := 26) rfl ?_); (with_reducible refine gate_callee (f := 10) rfl ?_); refine goesL_ (some 26) rfl rfl Try.func10 (by kernel_rfl) rfl #[.slice A0 l0.length c0, .string a1] rfl (by (try simp only [List.map_toArray, List.map_cons, List.map_nil]); first | done | rfl | (simp only [List.length_drop, List.length_take]; rfl)) ?_; (with_reducible refine (graph_Closure.calls _ _ l0 a1 t412 t413 t414 _ ?side1 ?side2 A7.out).mono ?_); (case side1 => repeat (first | exact (Kd.C_below HR0.out (by repeat (first | (with_reducible first | exact HB.out | apply below_alloc | apply pw_below_drewN | apply below_drew1) | exact HB.out))) | (with_reducible refine Kd.C_alloc ?_ _) | (with_reducible refine Kd.C_drewN ?_ _) | (with_reducible refine Kd.C_drew ?_))); (case side2 => exact HC0.out); rintro e w21 ⟨v415, rfl, ho0, hb⟩; refine ⟨_, rfl, ?_⟩; have n0_ := Aside0.mk (Kd.R_lower ho0 (below_size (by repeat (first | (with_reducible first | exact HB.out | apply below_alloc | apply pw_below_drewN | apply below_drew1) | exact HB.out)))); have n1_ := Aside0.mk (below_step (by repeat (first | (with_reducible first | exact HB.out | apply below_alloc | apply pw_below_drewN | apply below_drew1) | exact HB.out)) hb); clear HB; have HO416 := n0_; have HB := n1_; clear n0_ n1_; (try clear hb); (try clear hb2); (try clear hk); (try clear hi); (try clear ho0)) | ((with_reducible refine gate_dst (N := 33) rfl ?_); (with_reducible refine gate_callee (f := 19) rfl ?_); refine goesL_ (some 33) rfl rfl Try.func19 (by kernel_rfl) rfl #[.slice A0 l0.length c0, .string a1] rfl (by (try simp only [List.map_toArray, List.map_cons, List.map_nil]); first | done | rfl | (simp only [List.length_drop, List.length_take]; rfl)) ?_; (with_reducible refine (curtilageref13_Closure.calls k _ _ l0 a1 t417 t418 t419 _ ?side1 ?side2 A8.out).mono ?_); (case side1 => repeat (first | exact (Kd.C_below HR0.out HB.out) | (with_reducible refine Kd.C_alloc ?_ _) | (with_reducible refine Kd.C_drewN ?_ _) | (with_reducible refine Kd.C_drew ?_))); (case side2 => exact HC0.out); rintro e w22 ⟨v420, rfl, ho0, hb⟩; refine ⟨_, rfl, ?_⟩; have n0_ := Aside0.mk (Kd.R_elder' (by (with_reducible repeat (first | apply Kd.R_alloc | apply Kd.R_drewN | apply Kd.R_drew)); exact HO416.out) (Kd.R_base ho0) hb); have n1_ := Aside0.mk (Kd.R_lower (Kd.R_new' ho0 (Kd.R_lt (by (with_reducible repeat (first | apply Kd.R_alloc | apply Kd.R_drewN | apply Kd.R_drew)); exact HO416.out))) (below_size (by repeat (first | (with_reducible first | exact HB.out | apply below_alloc | apply pw_below_drewN | apply below_drew1) | exact HB.out)))); have n2_ := Aside0.mk (below_step (by repeat (first | (with_reducible first | exact HB.out | apply below_alloc | apply pw_below_drewN | apply below_drew1) | exact HB.out)) hb); clear HO416; clear HB; have HO416 := n0_; have HO421 := n1_; have HB := n2_; clear n0_ n1_ n2_; (try clear hb); (try clear hb2); (try clear hk); (try clear hi); (try clear ho0)) | ((with_reducible refine gate_dst (N := 39) rfl ?_); (with_reducible refine gate_callee (f := 20) rfl ?_); refine goesL_ (some 39) rfl rfl Try.func20 (by kernel_rfl) rfl #[.slice A0 l0.length c0, .int .i64 a2] rfl (by (try simp only [List.map_toArray, List.map_cons, List.map_nil]); first | done | rfl | (simp only [List.length_drop, List.length_take]; rfl)) ?_; (with_reducible refine (graph_Reach.calls k _ _ l0 a2 t422 _ ?side1 ?side2 A9.out).mono ?_); (case side1 => repeat (first | exact (Kd.C_below HR0.out HB.out) | (with_reducible refine Kd.C_alloc ?_ _) | (with_reducible refine Kd.C_drewN ?_ _) | (with_reducible refine Kd.C_drew ?_))); (case side2 => exact HC0.out); rintro e w23 ⟨v423, rfl, ho0, hb⟩; refine ⟨_, rfl, ?_⟩; have n0_ := Aside0.mk (Kd.R_elder' (by (with_reducible repeat (first | apply Kd.R_alloc | apply Kd.R_drewN | apply Kd.R_drew)); exact HO416.out) (Kd.R_base ho0) hb); have n1_ := Aside0.mk (Kd.R_elder' (by (with_reducible repeat (first | apply Kd.R_alloc | apply Kd.R_drewN | apply Kd.R_drew)); exact HO421.out) (Kd.R_base ho0) hb); have n2_ := Aside0.mk (Kd.R_lower (Kd.R_new' (Kd.R_new' ho0 (Kd.R_lt (by (with_reducible repeat (first | apply Kd.R_alloc | apply Kd.R_drewN | apply Kd.R_drew)); exact HO416.out))) (Kd.R_lt (by (with_reducible repeat (first | apply Kd.R_alloc | apply Kd.R_drewN | apply Kd.R_drew)); exact HO421.out))) (below_size (by repeat (first | (with_reducible first | exact HB.out | apply below_alloc | apply pw_below_drewN | apply below_drew1) | exact HB.out)))); have n3_ := Aside0.mk (below_step (by repeat (first | (with_reducible first | exact HB.out | apply below_alloc | apply pw_below_drewN | apply below_drew1) | exact HB.out)) hb); clear HO416; clear HO421; clear HB; have HO416 := n0_; have HO421 := n1_; have HO424 := n2_; have HB := n3_; clear n0_ n1_ n2_ n3_; (try clear hb); (try clear hb2); (try clear hk); (try clear hi); (try clear ho0)) | ((with_reducible refine gate_dst (N := 42) rfl ?_); (with_reducible refine gate_callee (f := 21) rfl ?_); refine goesL_ (some 42) rfl rfl Try.func21 (by kernel_rfl) rfl #[.slice A0 l0.length c0, .string a1] rfl (by (try simp only [List.map_toArray, List.map_cons, List.map_nil]); first | done | rfl | (simp only [List.length_drop, List.length_take]; rfl)) ?_; (with_reducible refine (graph_Find.calls _ _ l0 a1 t425 _ ?side1 ?side2 A10.out).mono ?_); (case side1 => repeat (first | exact (Kd.C_below HR0.out HB.out) | (with_reducible refine Kd.C_alloc ?_ _) | (with_reducible refine Kd.C_drewN ?_ _) | (with_reducible refine Kd.C_drew ?_))); (case side2 => exact HC0.out); rintro e w24 ⟨rfl, hb⟩; refine ⟨_, rfl, ?_⟩; have n0_ := Aside0.mk (Kd.R_below (by (with_reducible repeat (first | apply Kd.R_alloc | apply Kd.R_drewN | apply Kd.R_drew)); exact HO416.out) hb); have n1_ := Aside0.mk (Kd.R_below (by (with_reducible repeat (first | apply Kd.R_alloc | apply Kd.R_drewN | apply Kd.R_drew)); exact HO421.out) hb); have n2_ := Aside0.mk (Kd.R_below (by (with_reducible repeat (first | apply Kd.R_alloc | apply Kd.R_drewN | apply Kd.R_drew)); exact HO424.out) hb); have n3_ := Aside0.mk (below_step (by repeat (first | (with_reducible first | exact HB.out | apply below_alloc | apply pw_below_drewN | apply below_drew1) | exact HB.out)) hb); clear HO416; clear HO421; clear HO424; clear HB; have HO416 := n0_; have HO421 := n1_; have HO424 := n2_; have HB := n3_; clear n0_ n1_ n2_ n3_; (try clear hb); (try clear hb2); (try clear hk); (try clear hi); obtain ⟨Ao25, co25, eo25⟩ := Kd.R_slice HO416.out; subst eo25; obtain ⟨Ao26, co26, eo26⟩ := Kd.R_slice HO421.out; subst eo26) | (go_at_call 12; (with_reducible refine (curtilageref10_Numbers.calls k _ _ t412 _ _ t417 true _ ?side1 ?side2 ?side3 ?side4 A14.out).mono ?_); (case side1 => repeat (first | exact (Kd.R_reads' HO416.out).2.2 | (with_reducible refine Kd.C_alloc ?_ _) | (with_reducible refine Kd.C_drewN ?_ _) | (with_reducible refine Kd.C_drew ?_))); (case side2 => exact (Kd.R_reads' HO416.out).2.1); (case side3 => repeat (first | exact (Kd.R_reads' HO421.out).2.2 | (with_reducible refine Kd.C_alloc ?_ _) | (with_reducible refine Kd.C_drewN ?_ _) | (with_reducible refine Kd.C_drew ?_))); (case side4 => exact (Kd.R_reads' HO421.out).2.1); rintro e w' ⟨rfl, ⟨nd, rfl⟩⟩) | (go_at_call 18; (with_reducible refine (curtilageref13_Reach.calls k _ _ l0 a2 t427 _ ?side1 ?side2 A16.out).mono ?_); (case side1 => repeat (first | exact (Kd.C_below HR0.out (by repeat (first | (with_reducible first | exact HB.out | apply below_alloc | apply pw_below_drewN | apply below_drew1) | exact HB.out))) | (with_reducible refine Kd.C_alloc ?_ _) | (with_reducible refine Kd.C_drewN ?_ _) | (with_reducible refine Kd.C_drew ?_))); (case side2 => exact HC0.out); rintro e w27 ⟨v428, rfl, ho0, hb⟩; have n0_ := Aside0.mk (Kd.R_elder' (by (with_reducible repeat (first | apply Kd.R_alloc | apply Kd.R_drewN | apply Kd.R_drew)); exact HO416.out) (Kd.R_base ho0) hb); have n1_ := Aside0.mk (Kd.R_elder' (by (with_reducible repeat (first | apply Kd.R_alloc | apply Kd.R_drewN | apply Kd.R_drew)); exact HO421.out) (Kd.R_base ho0) hb); have n2_ := Aside0.mk (Kd.R_elder' (by (with_reducible repeat (first | apply Kd.R_alloc | apply Kd.R_drewN | apply Kd.R_drew)); exact HO424.out) (Kd.R_base ho0) hb); have n3_ := Aside0.mk (Kd.R_lower (Kd.R_new' (Kd.R_new' (Kd.R_new' ho0 (Kd.R_lt (by (with_reducible repeat (first | apply Kd.R_alloc | apply Kd.R_drewN | apply Kd.R_drew)); exact HO416.out))) (Kd.R_lt (by (with_reducible repeat (first | apply Kd.R_alloc | apply Kd.R_drewN | apply Kd.R_drew)); exact HO421.out))) (Kd.R_lt (by (with_reducible repeat (first | apply Kd.R_alloc | apply Kd.R_drewN | apply Kd.R_drew)); exact HO424.out))) (below_size (by repeat (first | (with_reducible first | exact HB.out | apply below_alloc | apply pw_below_drewN | apply below_drew1) | exact HB.out)))); have n4_ := Aside0.mk (below_step (by repeat (first | (with_reducible first | exact HB.out | apply below_alloc | apply pw_below_drewN | apply below_drew1) | exact HB.out)) hb); clear HO416; clear HO421; clear HO424; clear HB; have HO416 := n0_; have HO421 := n1_; have HO424 := n2_; have HO429 := n3_; have HB := n4_; clear n0_ n1_ n2_ n3_ n4_; (try clear hb); (try clear hb2); (try clear hk); (try clear hi); (try clear ho0); obtain ⟨Ao28, co28, eo28⟩ := Kd.R_slice HO424.out; subst eo28; obtain ⟨Ao29, co29, eo29⟩ := Kd.R_slice HO429.out; subst eo29) | (go_at_call 12; (with_reducible refine (curtilageref10_Numbers.calls k _ _ t422 _ _ t427 true _ ?side1 ?side2 ?side3 ?side4 A17.out).mono ?_); (case side1 => repeat (first | exact (Kd.R_reads' HO424.out).2.2 | (with_reducible refine Kd.C_alloc ?_ _) | (with_reducible refine Kd.C_drewN ?_ _) | (with_reducible refine Kd.C_drew ?_))); (case side2 => exact (Kd.R_reads' HO424.out).2.1); (case side3 => repeat (first | exact (Kd.R_reads' HO429.out).2.2 | (with_reducible refine Kd.C_alloc ?_ _) | (with_reducible refine Kd.C_drewN ?_ _) | (with_reducible refine Kd.C_drew ?_))); (case side4 => exact (Kd.R_reads' HO429.out).2.1); rintro e w' ⟨rfl, ⟨nd, rfl⟩⟩) | (go_at_call 22; (with_reducible refine (curtilageref13_Find.calls k _ _ l0 a1 t431 _ ?side1 ?side2 A19.out).mono ?_); (case side1 => repeat (first | exact (Kd.C_below HR0.out (by repeat (first | (with_reducible first | exact HB.out | apply below_alloc | apply pw_below_drewN | apply below_drew1) | exact HB.out))) | (with_reducible refine Kd.C_alloc ?_ _) | (with_reducible refine Kd.C_drewN ?_ _) | (with_reducible refine Kd.C_drew ?_))); (case side2 => exact HC0.out); rintro e w' ⟨rfl, ⟨nd, rfl⟩⟩))
              go_ret
              exact ⟨by first | rfl | (simp [errW_none, errW_some] <;> rfl) | (simp [*, errW_none, errW_some] <;> rfl), by repeat (first | (with_reducible first | exact HB.out | apply below_alloc | apply pw_below_drewN | apply below_drew1) | exact HB.out)⟩
            · replace c18 := Bool.eq_false_iff.mpr c18
              subst c18
              have H1 : (some false) = some r := by rw [if_neg (show ¬ (false = true) by decide)] at H; exact H
              clear H
              have H := H1
              clear H1
              exact absurd ((Option.some.inj H).trans HT.out) (by decide)
          · replace c15 := Bool.eq_false_iff.mpr c15
            subst c15
            have H1 : (some false) = some r := by rw [if_neg (show ¬ (false = true) by decide)] at H; exact H
            clear H
            have H := H1
            clear H1
            exact absurd ((Option.some.inj H).trans HT.out) (by decide)
        · rw [if_neg c13] at H
          have c13b0 : (t413.toList == t418.toList) = false := beq_eq_false_iff_ne.mpr c13
          have c13b1 : (t413.toList != t418.toList) = true := bne_iff_ne.mpr c13
          exact absurd ((Option.some.inj H).trans HT.out) (by decide)
      · rw [if_neg c12] at H
        have c12b0 : (t414 == t419) = false := beq_eq_false_iff_ne.mpr c12
        have c12b1 : (t414 != t419) = true := bne_iff_ne.mpr c12
        exact absurd ((Option.some.inj H).trans HT.out) (by decide)
    · replace c11 := Bool.eq_false_iff.mpr c11
      subst c11
      have H1 : (some false) = some r := by rw [if_neg (show ¬ (false = true) by decide)] at H; exact H
      clear H
      have H := H1
      clear H1
      exact absurd ((Option.some.inj H).trans HT.out) (by decide)
  · replace c6 := Bool.eq_false_iff.mpr c6
    subst c6
    have H1 : (some t410) = some r := by rw [if_neg (show ¬ (false = true) by decide)] at H; exact H
    clear H
    have H := H1
    clear H1
    obtain rfl := Option.some.inj H
    go_enter Try.func6, Try.ntmps6
    go_wp2_with (first | ((with_reducible refine gate_dst (N := 17) rfl ?_); (with_reducible refine gate_callee (f := 8) rfl ?_); refine goesL_ (some 17) rfl rfl Try.func8 (by kernel_rfl) rfl #[] rfl (by (try simp only [List.map_toArray, List.map_cons, List.map_nil]); first | done | rfl | (simp only [List.length_drop, List.length_take]; rfl)) ?_; (with_reducible refine (curtilagelaw13_awake.calls k  t410 _ A4.out).mono ?_); rintro e w62 ⟨rfl, hb⟩; refine ⟨_, rfl, ?_⟩; have n0_ := Aside0.mk (below_step (by repeat (first | (with_reducible first | exact HB.out | apply below_alloc | apply pw_below_drewN | apply below_drew1) | exact HB.out)) hb); clear HB; have HB := n0_; clear n0_; (try clear hb); (try clear hb2); (try clear hk); (try clear hi)) | ((with_reducible refine gate_dst (N := 19) rfl ?_); (with_reducible refine gate_callee (f := 9) rfl ?_); refine goesL_ (some 19) rfl rfl Try.func9 (by kernel_rfl) rfl #[.slice A0 l0.length c0, .int .i64 20] rfl (by (try simp only [List.map_toArray, List.map_cons, List.map_nil]); first | done | rfl | (simp only [List.length_drop, List.length_take]; rfl)) ?_; (with_reducible refine (curtilageref13_Short.calls k _ _ l0 20 false _ ?side1 ?side2 A5.out).mono ?_); (case side1 => repeat (first | exact (Kd.C_below HR0.out HB.out) | (with_reducible refine Kd.C_alloc ?_ _) | (with_reducible refine Kd.C_drewN ?_ _) | (with_reducible refine Kd.C_drew ?_))); (case side2 => exact HC0.out); rintro e w' ⟨rfl, ⟨nd, rfl⟩⟩; refine ⟨_, rfl, ?_⟩))
    go_ret
    exact ⟨by first | rfl | (simp [errW_none, errW_some] <;> rfl) | (simp [*, errW_none, errW_some] <;> rfl), by repeat (first | (with_reducible first | exact HB.out | apply below_alloc | apply pw_below_drewN | apply below_drew1) | exact HB.out)⟩

def curtilagelaw13_GraphAll.l0 : Nat → Bool → List Int → List Int → List Int → Bool → Bool → Int → Option (Bool)
  | 0, _, _, _, _, _, _, _ => none
  | k + 1, x5, x7, x10, x11, x12, x13, x14 => if x14 < (x10.length : Int) then (if 0 ≤ x14 then ((curtilageref13_Has.f k x7 (rd x10 x14)).bind fun t449 => ((curtilageref13_Has.f k x11 (rd x10 x14)).bind fun t451 => (if t449 = true then (if t451 = true then (curtilagelaw13_GraphAll.l0 k x5 x7 x10 x11 x12 x13 (wrap64 (x14 + 1))) else (some false)) else (some false)))) else (none)) else (if x5 = true then (if x12 = true then (if x13 = true then (if (x10.length : Int) = (x7.length : Int) then (some ((x11.length : Int) == (x7.length : Int))) else (some false)) else (some false)) else (some false)) else (some false))
def curtilagelaw13_GraphAll.f (k : Nat) (l0 : List (S29)) (a1 : ByteArray) : Option (Bool) := (curtilagelaw13_awake.f k).bind fun t432 => ((curtilageref13_Short.f k l0 20).bind fun t433 => (if t433 = true then ((graph_Closure.f l0 a1).bind fun bt434 => (if bt434.2.2 = 0 then (if (bt434.1.length : Int) = 0 then (some false) else (if 0 < (bt434.1.length : Int) then ((graph_Reach.f k l0 (rd bt434.1 0)).bind fun t440 => ((graph_Begin.f l0 bt434.1).bind fun t443 => ((curtilageref13_Right.f k bt434.1 (l0.length : Int)).bind fun t446 => ((curtilageref13_Right.f k t443 (l0.length : Int)).bind fun t447 => (curtilagelaw13_GraphAll.l0 k t432 bt434.1 t440 t443 t446 t447 0))))) else (none))) else (if t432 = true then (some ((bt434.1.length : Int) == 0)) else (some false)))) else (some t432)))
theorem curtilagelaw13_GraphAll.mono_l : ∀ k, (∀ y0 y1 y2 y3 y4 y5 y6, LeO (curtilagelaw13_GraphAll.l0 k y0 y1 y2 y3 y4 y5 y6) (curtilagelaw13_GraphAll.l0 (k + 1) y0 y1 y2 y3 y4 y5 y6))
  | 0 => fun _ _ _ _ _ _ _ r h => by simp [curtilagelaw13_GraphAll.l0] at h
  | k + 1 => by
    have ih0 := curtilagelaw13_GraphAll.mono_l k
    · intro y0 y1 y2 y3 y4 y5 y6
      unfold curtilagelaw13_GraphAll.l0
      repeat' first
      | (with_reducible exact ih0 _ _ _ _ _ _ _)
      | (with_reducible exact curtilagelaw13_awake.mono _)
      | (with_reducible exact curtilageref13_Has.mono _ _ _)
      | (with_reducible exact curtilageref13_Right.mono _ _ _)
      | (with_reducible exact curtilageref13_Short.mono _ _ _)
      | (with_reducible exact graph_Reach.mono _ _ _)
      | (with_reducible exact LeO.refl _)
      | (with_reducible exact LeO.none _)
      | (with_reducible refine LeO.ite ?_ ?_)
      | (with_reducible refine LeO.bind ?_ (fun _ => ?_))
      | exact ih0 _ _ _ _ _ _ _
      | exact curtilagelaw13_awake.mono _
      | exact curtilageref13_Has.mono _ _ _
      | exact curtilageref13_Right.mono _ _ _
      | exact curtilageref13_Short.mono _ _ _
      | exact graph_Reach.mono _ _ _
      | exact LeO.none _
      | refine LeO.ite ?_ ?_
      | refine LeO.bind ?_ (fun _ => ?_)
theorem curtilagelaw13_GraphAll.mono : ∀ a0 a1 k, LeO (curtilagelaw13_GraphAll.f k a0 a1) (curtilagelaw13_GraphAll.f (k + 1) a0 a1) := by
  intro a0 a1 k
  have ih0 := curtilagelaw13_GraphAll.mono_l k
  unfold curtilagelaw13_GraphAll.f
  repeat' first
      | (with_reducible exact ih0 _ _ _ _ _ _ _)
      | (with_reducible exact curtilagelaw13_awake.mono _)
      | (with_reducible exact curtilageref13_Has.mono _ _ _)
      | (with_reducible exact curtilageref13_Right.mono _ _ _)
      | (with_reducible exact curtilageref13_Short.mono _ _ _)
      | (with_reducible exact graph_Reach.mono _ _ _)
      | (with_reducible exact LeO.refl _)
      | (with_reducible exact LeO.none _)
      | (with_reducible refine LeO.ite ?_ ?_)
      | (with_reducible refine LeO.bind ?_ (fun _ => ?_))
      | exact ih0 _ _ _ _ _ _ _
      | exact curtilagelaw13_awake.mono _
      | exact curtilageref13_Has.mono _ _ _
      | exact curtilageref13_Right.mono _ _ _
      | exact curtilageref13_Short.mono _ _ _
      | exact graph_Reach.mono _ _ _
      | exact LeO.none _
      | refine LeO.ite ?_ ?_
      | refine LeO.bind ?_ (fun _ => ?_)
end Go.Proofs.Ytndmfjdoekdleaa.P
