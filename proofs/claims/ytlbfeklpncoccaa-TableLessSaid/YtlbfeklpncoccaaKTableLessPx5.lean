/- What functions of the program, and of its laws, give, each proved of its code by a walk; no condition. -/
import Derived.Test.YtlbfeklpncoccaaKTableLessPx0
import Derived.Test.YtlbfeklpncoccaaKTableLessPx2
import Derived.Test.YtlbfeklpncoccaaKTableLessPx3
import Derived.Test.YtlbfeklpncoccaaKTableLessSq
import Derived.Test.YtlbfeklpncoccaaKTableLessUsh
import Derived.Test.YtlbfeklpncoccaaKTableLessUs4
namespace Go.Proofs.Ytlbfeklpncoccaa.P
open Go.RowKit Go.Proofs.YtlbfeklpncoccaaW.PrintWords Go.Proofs.YtlbfeklpncoccaaW.PrintLast Go.Proofs.YtlbfeklpncoccaaW.PrintMore
attribute [local go_sem] max2_int min2_int max_two min_two max_three min_three max_four min_four   -- for this text's walks alone
set_option linter.unusedVariables false
set_option linter.unusedSimpArgs false

def cap_key.f (a0_0 : Int) (a0_1 : Int) (a0_2 : Int) (a0_3 : Int) (a0_4 : Int) (a0_5 : Bool) (a1 : Int) : Option (Bool) := if a0_5 = true then ((cap_sealed.f a0_0 a0_1 a0_2 a0_3 a0_4 a0_5).bind fun t213 => (if t213 = true then (some false) else (if (Go.bits .and .i64 a0_3 a1) = 0 then (some false) else (if a0_2 ≥ a0_0 then (if a0_2 < a0_1 then (some (decide (a0_2 < 64))) else (some false)) else (some false))))) else (some false)
set_option maxHeartbeats 8000000 in
set_option maxRecDepth 100000 in
theorem cap_key.calls (a0_0 : Int) (a0_1 : Int) (a0_2 : Int) (a0_3 : Int) (a0_4 : Int) (a0_5 : Bool) (a1 : Int) (r : Bool) (w : World) (h : cap_key.f a0_0 a0_1 a0_2 a0_3 a0_4 a0_5 a1 = some r) :
  Calls Try.prog 53 #[.agg #[.int .u64 a0_0, .int .u64 a0_1, .int .u64 a0_2, .int .i64 a0_3, .int .i64 a0_4, .bool a0_5], .int .i64 a1] w fun e w' => e = .returned (.bool r) ∧ Below w.heap.size w w' := by
 have hu37 := Try.underlying37
 have HB := am (Below.refl w.heap.size w)
 have H : (if a0_5 = true then ((cap_sealed.f a0_0 a0_1 a0_2 a0_3 a0_4 a0_5).bind fun t213 => (if t213 = true then (some false) else (if (Go.bits .and .i64 a0_3 a1) = 0 then (some false) else (if a0_2 ≥ a0_0 then (if a0_2 < a0_1 then (some (decide (a0_2 < 64))) else (some false)) else (some false))))) else (some false)) = some r := h
 clear h
 by_cases c3 : a0_5 = true
 ·subst c3
  have H1 : ((cap_sealed.f a0_0 a0_1 a0_2 a0_3 a0_4 true).bind fun t213 => (if t213 = true then (some false) else (if (Go.bits .and .i64 a0_3 a1) = 0 then (some false) else (if a0_2 ≥ a0_0 then (if a0_2 < a0_1 then (some (decide (a0_2 < 64))) else (some false)) else (some false))))) = some r := by rw [if_pos rfl] at H; exact H
  clear H
  have H := H1
  clear H1
  replace H := Option.bind_eq_some_iff.mp H
  obtain ⟨t213, A40, H⟩ := H
  replace H : (if t213 = true then (some false) else (if (Go.bits .and .i64 a0_3 a1) = 0 then (some false) else (if a0_2 ≥ a0_0 then (if a0_2 < a0_1 then (some (decide (a0_2 < 64))) else (some false)) else (some false)))) = some r := H
  have A4 := am A40
  clear A40
  by_cases c5 : t213 = true
  ·subst c5
   have H1 : (some false) = some r := by rw [if_pos rfl] at H; exact H
   clear H
   have H := H1
   clear H1
   obtain rfl := Option.some.inj H
   go_enter Try.func53, Try.ntmps53
   go_wp2_with (first | ((with_reducible refine gate_dst (N := 2) rfl ?_); refine box_event ?hg (N := 2) ?hd (cs := #[.int .u64 a0_0, .int .u64 a0_1, .int .u64 a0_2, .int .i64 a0_3, .int .i64 a0_4, .bool true]) (t := 37) ?hr ?_; (case hd => rfl); (case hg => rfl); (case hr => first | (go_simp; done) | (go_simp; rfl)); intro gb212 hg w6 hbox hb; have n0_ := bs HB hb; have n1_ := am (hbox); have n2_ := nz HB hg; have n3_ := nz HB hg; revert n0_ n1_ n2_ n3_; clear HB; intro HB BK212 GW212 GE212; clear hb hbox hg; obtain ⟨hcz7_0, hcz7_1, hcz7_2, hcz7_3, hcz7_4, hcz7_5, hfz7_0, hfz7_1, hfz7_2, hfz7_3, hfz7_4, hfz7_5⟩ := cells6 BK212.out) | (go_at_call 52; (with_reducible refine (cap_sealed.calls a0_0 a0_1 a0_2 a0_3 a0_4 true true _ A4.out).mono ?_); rintro e w8 ⟨rfl, hb⟩; have n0_ := bw BK212 hb; have n1_ := bs HB hb; revert n0_ n1_; clear BK212 HB; intro BK212 HB; (try clear hb)))
   go_ret
   exact ur (uc HB.out)
  ·replace c5 := Bool.eq_false_iff.mpr c5
   subst c5
   have H1 : (if (Go.bits .and .i64 a0_3 a1) = 0 then (some false) else (if a0_2 ≥ a0_0 then (if a0_2 < a0_1 then (some (decide (a0_2 < 64))) else (some false)) else (some false))) = some r := by rw [if_neg (show ¬ (false = true) by decide)] at H; exact H
   clear H
   have H := H1
   clear H1
   by_cases c9 : (Go.bits .and .i64 a0_3 a1) = 0
   ·rw [if_pos c9] at H
    have c9b0 := beq_iff_eq.mpr c9
    have c9b1 := bne_eq_false_iff_eq.mpr c9
    clear c9
    obtain rfl := Option.some.inj H
    go_enter Try.func53, Try.ntmps53
    go_wp2_with (first | ((with_reducible refine gate_dst (N := 2) rfl ?_); refine box_event ?hg (N := 2) ?hd (cs := #[.int .u64 a0_0, .int .u64 a0_1, .int .u64 a0_2, .int .i64 a0_3, .int .i64 a0_4, .bool true]) (t := 37) ?hr ?_; (case hd => rfl); (case hg => rfl); (case hr => first | (go_simp; done) | (go_simp; rfl)); intro gb212 hg w10 hbox hb; have n0_ := bs HB hb; have n1_ := am (hbox); have n2_ := nz HB hg; have n3_ := nz HB hg; revert n0_ n1_ n2_ n3_; clear HB; intro HB BK212 GW212 GE212; clear hb hbox hg; obtain ⟨hcz11_0, hcz11_1, hcz11_2, hcz11_3, hcz11_4, hcz11_5, hfz11_0, hfz11_1, hfz11_2, hfz11_3, hfz11_4, hfz11_5⟩ := cells6 BK212.out) | (go_at_call 52; (with_reducible refine (cap_sealed.calls a0_0 a0_1 a0_2 a0_3 a0_4 true false _ A4.out).mono ?_); rintro e w12 ⟨rfl, hb⟩; have n0_ := bw BK212 hb; have n1_ := bs HB hb; revert n0_ n1_; clear BK212 HB; intro BK212 HB; (try clear hb); obtain ⟨hcz13_0, hcz13_1, hcz13_2, hcz13_3, hcz13_4, hcz13_5, hfz13_0, hfz13_1, hfz13_2, hfz13_3, hfz13_4, hfz13_5⟩ := cells6 BK212.out))
    go_ret
    exact ur (uc HB.out)
   ·rw [if_neg c9] at H
    have c9b0 := beq_eq_false_iff_ne.mpr c9
    have c9b1 := bne_iff_ne.mpr c9
    by_cases c14 : a0_2 ≥ a0_0
    ·rw [if_pos c14] at H
     have c14b0 : decide (a0_0 ≤ a0_2) = true := decide_eq_true c14
     clear c14
     by_cases c15 : a0_2 < a0_1
     ·rw [if_pos c15] at H
      have c15b0 := decide_eq_true c15
      clear c15
      obtain rfl := Option.some.inj H
      go_enter Try.func53, Try.ntmps53
      go_wp2_with (first | ((with_reducible refine gate_dst (N := 2) rfl ?_); refine box_event ?hg (N := 2) ?hd (cs := #[.int .u64 a0_0, .int .u64 a0_1, .int .u64 a0_2, .int .i64 a0_3, .int .i64 a0_4, .bool true]) (t := 37) ?hr ?_; (case hd => rfl); (case hg => rfl); (case hr => first | (go_simp; done) | (go_simp; rfl)); intro gb212 hg w16 hbox hb; have n0_ := bs HB hb; have n1_ := am (hbox); have n2_ := nz HB hg; have n3_ := nz HB hg; revert n0_ n1_ n2_ n3_; clear HB; intro HB BK212 GW212 GE212; clear hb hbox hg; obtain ⟨hcz17_0, hcz17_1, hcz17_2, hcz17_3, hcz17_4, hcz17_5, hfz17_0, hfz17_1, hfz17_2, hfz17_3, hfz17_4, hfz17_5⟩ := cells6 BK212.out) | (go_at_call 52; (with_reducible refine (cap_sealed.calls a0_0 a0_1 a0_2 a0_3 a0_4 true false _ A4.out).mono ?_); rintro e w18 ⟨rfl, hb⟩; have n0_ := bw BK212 hb; have n1_ := bs HB hb; revert n0_ n1_; clear BK212 HB; intro BK212 HB; (try clear hb); obtain ⟨hcz19_0, hcz19_1, hcz19_2, hcz19_3, hcz19_4, hcz19_5, hfz19_0, hfz19_1, hfz19_2, hfz19_3, hfz19_4, hfz19_5⟩ := cells6 BK212.out))
      go_ret
      exact ur (uc HB.out)
     ·rw [if_neg c15] at H
      have c15b0 := decide_eq_false c15
      clear c15
      obtain rfl := Option.some.inj H
      go_enter Try.func53, Try.ntmps53
      go_wp2_with (first | ((with_reducible refine gate_dst (N := 2) rfl ?_); refine box_event ?hg (N := 2) ?hd (cs := #[.int .u64 a0_0, .int .u64 a0_1, .int .u64 a0_2, .int .i64 a0_3, .int .i64 a0_4, .bool true]) (t := 37) ?hr ?_; (case hd => rfl); (case hg => rfl); (case hr => first | (go_simp; done) | (go_simp; rfl)); intro gb212 hg w20 hbox hb; have n0_ := bs HB hb; have n1_ := am (hbox); have n2_ := nz HB hg; have n3_ := nz HB hg; revert n0_ n1_ n2_ n3_; clear HB; intro HB BK212 GW212 GE212; clear hb hbox hg; obtain ⟨hcz21_0, hcz21_1, hcz21_2, hcz21_3, hcz21_4, hcz21_5, hfz21_0, hfz21_1, hfz21_2, hfz21_3, hfz21_4, hfz21_5⟩ := cells6 BK212.out) | (go_at_call 52; (with_reducible refine (cap_sealed.calls a0_0 a0_1 a0_2 a0_3 a0_4 true false _ A4.out).mono ?_); rintro e w22 ⟨rfl, hb⟩; have n0_ := bw BK212 hb; have n1_ := bs HB hb; revert n0_ n1_; clear BK212 HB; intro BK212 HB; (try clear hb); obtain ⟨hcz23_0, hcz23_1, hcz23_2, hcz23_3, hcz23_4, hcz23_5, hfz23_0, hfz23_1, hfz23_2, hfz23_3, hfz23_4, hfz23_5⟩ := cells6 BK212.out))
      go_ret
      exact ur (uc HB.out)
    ·rw [if_neg c14] at H
     have c14b0 : decide (a0_0 ≤ a0_2) = false := decide_eq_false c14
     clear c14
     obtain rfl := Option.some.inj H
     go_enter Try.func53, Try.ntmps53
     go_wp2_with (first | ((with_reducible refine gate_dst (N := 2) rfl ?_); refine box_event ?hg (N := 2) ?hd (cs := #[.int .u64 a0_0, .int .u64 a0_1, .int .u64 a0_2, .int .i64 a0_3, .int .i64 a0_4, .bool true]) (t := 37) ?hr ?_; (case hd => rfl); (case hg => rfl); (case hr => first | (go_simp; done) | (go_simp; rfl)); intro gb212 hg w24 hbox hb; have n0_ := bs HB hb; have n1_ := am (hbox); have n2_ := nz HB hg; have n3_ := nz HB hg; revert n0_ n1_ n2_ n3_; clear HB; intro HB BK212 GW212 GE212; clear hb hbox hg; obtain ⟨hcz25_0, hcz25_1, hcz25_2, hcz25_3, hcz25_4, hcz25_5, hfz25_0, hfz25_1, hfz25_2, hfz25_3, hfz25_4, hfz25_5⟩ := cells6 BK212.out) | (go_at_call 52; (with_reducible refine (cap_sealed.calls a0_0 a0_1 a0_2 a0_3 a0_4 true false _ A4.out).mono ?_); rintro e w26 ⟨rfl, hb⟩; have n0_ := bw BK212 hb; have n1_ := bs HB hb; revert n0_ n1_; clear BK212 HB; intro BK212 HB; (try clear hb); obtain ⟨hcz27_0, hcz27_1, hcz27_2, hcz27_3, hcz27_4, hcz27_5, hfz27_0, hfz27_1, hfz27_2, hfz27_3, hfz27_4, hfz27_5⟩ := cells6 BK212.out))
     go_ret
     exact ur (uc HB.out)
 ·replace c3 := Bool.eq_false_iff.mpr c3
  subst c3
  have H1 : (some false) = some r := by rw [if_neg (show ¬ (false = true) by decide)] at H; exact H
  clear H
  have H := H1
  clear H1
  obtain rfl := Option.some.inj H
  go_enter Try.func53, Try.ntmps53
  go_wp2_with (first | ((with_reducible refine gate_dst (N := 2) rfl ?_); refine box_event ?hg (N := 2) ?hd (cs := #[.int .u64 a0_0, .int .u64 a0_1, .int .u64 a0_2, .int .i64 a0_3, .int .i64 a0_4, .bool false]) (t := 37) ?hr ?_; (case hd => rfl); (case hg => rfl); (case hr => first | (go_simp; done) | (go_simp; rfl)); intro gb212 hg w28 hbox hb; have n0_ := bs HB hb; have n1_ := am (hbox); have n2_ := nz HB hg; have n3_ := nz HB hg; revert n0_ n1_ n2_ n3_; clear HB; intro HB BK212 GW212 GE212; clear hb hbox hg; obtain ⟨hcz29_0, hcz29_1, hcz29_2, hcz29_3, hcz29_4, hcz29_5, hfz29_0, hfz29_1, hfz29_2, hfz29_3, hfz29_4, hfz29_5⟩ := cells6 BK212.out))
  go_ret
  exact ur (uc HB.out)

def cap_Seal.f (a0_0 : Int) (a0_1 : Int) (a0_2 : Int) (a0_3 : Int) (a0_4 : Int) (a0_5 : Bool) (a1_0 : Int) (a1_1 : Int) (a1_2 : Int) (a1_3 : Int) (a1_4 : Int) (a1_5 : Bool) : Option (Int × Int × Int × Int × Int × Bool) := if a0_5 = true then ((cap_sealed.f a0_0 a0_1 a0_2 a0_3 a0_4 a0_5).bind fun t217 => (if t217 = true then ((cap_Clear.f a0_0 a0_1 a0_2 a0_3 a0_4 a0_5).bind fun bt218 => (some (bt218.1, bt218.2.1, bt218.2.2.1, bt218.2.2.2.1, bt218.2.2.2.2.1, bt218.2.2.2.2.2))) else ((cap_key.f a1_0 a1_1 a1_2 a1_3 a1_4 a1_5 32).bind fun t224 => (if t224 = true then (some (a0_0, a0_1, a0_2, a0_3, wrap64 (a1_2), a0_5)) else ((cap_Clear.f a0_0 a0_1 a0_2 a0_3 a0_4 a0_5).bind fun bt225 => (some (bt225.1, bt225.2.1, bt225.2.2.1, bt225.2.2.2.1, bt225.2.2.2.2.1, bt225.2.2.2.2.2))))))) else ((cap_Clear.f a0_0 a0_1 a0_2 a0_3 a0_4 a0_5).bind fun bt231 => (some (bt231.1, bt231.2.1, bt231.2.2.1, bt231.2.2.2.1, bt231.2.2.2.2.1, bt231.2.2.2.2.2)))
set_option maxHeartbeats 8000000 in
set_option maxRecDepth 100000 in
theorem cap_Seal.calls (a0_0 : Int) (a0_1 : Int) (a0_2 : Int) (a0_3 : Int) (a0_4 : Int) (a0_5 : Bool) (a1_0 : Int) (a1_1 : Int) (a1_2 : Int) (a1_3 : Int) (a1_4 : Int) (a1_5 : Bool) (r1 : Int) (r2 : Int) (r3 : Int) (r4 : Int) (r5 : Int) (r6 : Bool) (w : World) (h : cap_Seal.f a0_0 a0_1 a0_2 a0_3 a0_4 a0_5 a1_0 a1_1 a1_2 a1_3 a1_4 a1_5 = some (r1, r2, r3, r4, r5, r6)) :
  Calls Try.prog 29 #[.agg #[.int .u64 a0_0, .int .u64 a0_1, .int .u64 a0_2, .int .i64 a0_3, .int .i64 a0_4, .bool a0_5], .agg #[.int .u64 a1_0, .int .u64 a1_1, .int .u64 a1_2, .int .i64 a1_3, .int .i64 a1_4, .bool a1_5]] w fun e w' => e = .returned (.agg #[.int .u64 r1, .int .u64 r2, .int .u64 r3, .int .i64 r4, .int .i64 r5, .bool r6]) ∧ Below w.heap.size w w' := by
 have hu37 := Try.underlying37
 have HB := am (Below.refl w.heap.size w)
 have H : (if a0_5 = true then ((cap_sealed.f a0_0 a0_1 a0_2 a0_3 a0_4 a0_5).bind fun t217 => (if t217 = true then ((cap_Clear.f a0_0 a0_1 a0_2 a0_3 a0_4 a0_5).bind fun bt218 => (some (bt218.1, bt218.2.1, bt218.2.2.1, bt218.2.2.2.1, bt218.2.2.2.2.1, bt218.2.2.2.2.2))) else ((cap_key.f a1_0 a1_1 a1_2 a1_3 a1_4 a1_5 32).bind fun t224 => (if t224 = true then (some (a0_0, a0_1, a0_2, a0_3, wrap64 (a1_2), a0_5)) else ((cap_Clear.f a0_0 a0_1 a0_2 a0_3 a0_4 a0_5).bind fun bt225 => (some (bt225.1, bt225.2.1, bt225.2.2.1, bt225.2.2.2.1, bt225.2.2.2.2.1, bt225.2.2.2.2.2))))))) else ((cap_Clear.f a0_0 a0_1 a0_2 a0_3 a0_4 a0_5).bind fun bt231 => (some (bt231.1, bt231.2.1, bt231.2.2.1, bt231.2.2.2.1, bt231.2.2.2.2.1, bt231.2.2.2.2.2)))) = some (r1, r2, r3, r4, r5, r6) := h
 clear h
 by_cases c3 : a0_5 = true
 ·subst c3
  have H1 : ((cap_sealed.f a0_0 a0_1 a0_2 a0_3 a0_4 true).bind fun t217 => (if t217 = true then ((cap_Clear.f a0_0 a0_1 a0_2 a0_3 a0_4 true).bind fun bt218 => (some (bt218.1, bt218.2.1, bt218.2.2.1, bt218.2.2.2.1, bt218.2.2.2.2.1, bt218.2.2.2.2.2))) else ((cap_key.f a1_0 a1_1 a1_2 a1_3 a1_4 a1_5 32).bind fun t224 => (if t224 = true then (some (a0_0, a0_1, a0_2, a0_3, wrap64 (a1_2), true)) else ((cap_Clear.f a0_0 a0_1 a0_2 a0_3 a0_4 true).bind fun bt225 => (some (bt225.1, bt225.2.1, bt225.2.2.1, bt225.2.2.2.1, bt225.2.2.2.2.1, bt225.2.2.2.2.2))))))) = some (r1, r2, r3, r4, r5, r6) := by rw [if_pos rfl] at H; exact H
  clear H
  have H := H1
  clear H1
  replace H := Option.bind_eq_some_iff.mp H
  obtain ⟨t217, A40, H⟩ := H
  replace H : (if t217 = true then ((cap_Clear.f a0_0 a0_1 a0_2 a0_3 a0_4 true).bind fun bt218 => (some (bt218.1, bt218.2.1, bt218.2.2.1, bt218.2.2.2.1, bt218.2.2.2.2.1, bt218.2.2.2.2.2))) else ((cap_key.f a1_0 a1_1 a1_2 a1_3 a1_4 a1_5 32).bind fun t224 => (if t224 = true then (some (a0_0, a0_1, a0_2, a0_3, wrap64 (a1_2), true)) else ((cap_Clear.f a0_0 a0_1 a0_2 a0_3 a0_4 true).bind fun bt225 => (some (bt225.1, bt225.2.1, bt225.2.2.1, bt225.2.2.2.1, bt225.2.2.2.2.1, bt225.2.2.2.2.2)))))) = some (r1, r2, r3, r4, r5, r6) := H
  have A4 := am A40
  clear A40
  by_cases c5 : t217 = true
  ·subst c5
   have H1 : ((cap_Clear.f a0_0 a0_1 a0_2 a0_3 a0_4 true).bind fun bt218 => (some (bt218.1, bt218.2.1, bt218.2.2.1, bt218.2.2.2.1, bt218.2.2.2.2.1, bt218.2.2.2.2.2))) = some (r1, r2, r3, r4, r5, r6) := by rw [if_pos rfl] at H; exact H
   clear H
   have H := H1
   clear H1
   replace H := Option.bind_eq_some_iff.mp H
   obtain ⟨⟨t218, t219, t220, t221, t222, t223⟩, A60, H⟩ := H
   replace H : (some (t218, t219, t220, t221, t222, t223)) = some (r1, r2, r3, r4, r5, r6) := H
   have A6 := am A60
   clear A60
   simp only [Option.some.injEq, Prod.mk.injEq] at H
   obtain ⟨rfl, rfl, rfl, rfl, rfl, rfl⟩ := H
   go_enter Try.func29, Try.ntmps29
   go_wp2_with (first | ((with_reducible refine gate_dst (N := 2) rfl ?_); refine box_event ?hg (N := 2) ?hd (cs := #[.int .u64 a0_0, .int .u64 a0_1, .int .u64 a0_2, .int .i64 a0_3, .int .i64 a0_4, .bool true]) (t := 37) ?hr ?_; (case hd => rfl); (case hg => rfl); (case hr => first | (go_simp; done) | (go_simp; rfl)); intro gb214 hg w7 hbox hb; have n0_ := bs HB hb; have n1_ := am (hbox); have n2_ := nz HB hg; have n3_ := nz HB hg; revert n0_ n1_ n2_ n3_; clear HB; intro HB BK214 GW214 GE214; clear hb hbox hg) | ((with_reducible refine gate_dst (N := 3) rfl ?_); refine box_event ?hg (N := 3) ?hd (cs := #[.int .u64 a1_0, .int .u64 a1_1, .int .u64 a1_2, .int .i64 a1_3, .int .i64 a1_4, .bool a1_5]) (t := 37) ?hr ?_; (case hd => rfl); (case hg => rfl); (case hr => first | (go_simp; done) | (go_simp; rfl)); intro gb215 hg w8 hbox hb; have n0_ := bw BK214 hb; have n1_ := bs HB hb; have n2_ := am (hbox); have n3_ := nz HB hg; have n4_ := nz HB hg; have n5_ := nl BK214 hg; have n6_ := nr BK214 hg; revert n0_ n1_ n2_ n3_ n4_ n5_ n6_; clear BK214 HB; intro BK214 HB BK215 GW215 GE215 NB214_215 NB215_214; clear hb hbox hg) | ((with_reducible refine gate_dst (N := 4) rfl ?_); refine box_event ?hg (N := 4) ?hd (cs := #[.int .u64 0, .int .u64 0, .int .u64 0, .int .i64 0, .int .i64 0, .bool false]) (t := 37) ?hr ?_; (case hd => rfl); (case hg => rfl); (case hr => first | (go_simp; done) | (go_simp; rfl)); intro gb216 hg w9 hbox hb; have n0_ := bw BK214 hb; have n1_ := bw BK215 hb; have n2_ := bs HB hb; have n3_ := am (hbox); have n4_ := nz HB hg; have n5_ := nz HB hg; have n6_ := nl BK214 hg; have n7_ := nr BK214 hg; have n8_ := nl BK215 hg; have n9_ := nr BK215 hg; revert n0_ n1_ n2_ n3_ n4_ n5_ n6_ n7_ n8_ n9_; clear BK214 BK215 HB; intro BK214 BK215 HB BK216 GW216 GE216 NB214_216 NB216_214 NB215_216 NB216_215; clear hb hbox hg; have hnb10 := NB214_215.out; have hnc10 := NB215_214.out; have hnb11 := NB214_216.out; have hnc11 := NB216_214.out; obtain ⟨hcz12_0, hcz12_1, hcz12_2, hcz12_3, hcz12_4, hcz12_5, hfz12_0, hfz12_1, hfz12_2, hfz12_3, hfz12_4, hfz12_5⟩ := cells6 BK214.out) | (go_at_call 52; (with_reducible refine (cap_sealed.calls a0_0 a0_1 a0_2 a0_3 a0_4 true true _ A4.out).mono ?_); rintro e w13 ⟨rfl, hb⟩; have n0_ := bw BK214 hb; have n1_ := bw BK215 hb; have n2_ := bw BK216 hb; have n3_ := bs HB hb; revert n0_ n1_ n2_ n3_; clear BK214 BK215 BK216 HB; intro BK214 BK215 BK216 HB; (try clear hb); obtain ⟨hcz14_0, hcz14_1, hcz14_2, hcz14_3, hcz14_4, hcz14_5, hfz14_0, hfz14_1, hfz14_2, hfz14_3, hfz14_4, hfz14_5⟩ := cells6 BK214.out) | ((with_reducible refine gate_dst (N := 18) rfl ?_); (with_reducible refine gate_callee (f := 51) rfl ?_); refine gl (some 18) Try.func51 #[.agg #[.int .u64 a0_0, .int .u64 a0_1, .int .u64 a0_2, .int .i64 a0_3, .int .i64 a0_4, .bool true]] ?_; (with_reducible refine (cap_Clear.calls a0_0 a0_1 a0_2 a0_3 a0_4 true t218 t219 t220 t221 t222 t223 _ A6.out).mono ?_); rintro e w15 ⟨rfl, hb⟩; refine ⟨_, rfl, ?_⟩; have n0_ := bw BK214 hb; have n1_ := bw BK215 hb; have n2_ := bw BK216 hb; have n3_ := bs HB hb; revert n0_ n1_ n2_ n3_; clear BK214 BK215 BK216 HB; intro BK214 BK215 BK216 HB; (try clear hb); have hnb16 := NB216_215.out; have hnc16 := NB215_216.out; obtain ⟨hcz17_0, hcz17_1, hcz17_2, hcz17_3, hcz17_4, hcz17_5, hfz17_0, hfz17_1, hfz17_2, hfz17_3, hfz17_4, hfz17_5⟩ := cells6 BK216.out) | ((with_reducible refine gate_store (t := 37) (p := 4) rfl ?_); refine store_event (t := 37) (p := 4) (v := ?vo_w18) (w1 := ((((((w15.setCell ⟨gb216, 0, none⟩ (.int .u64 t218)).setCell ⟨gb216, 1, none⟩ (.int .u64 t219)).setCell ⟨gb216, 2, none⟩ (.int .u64 t220)).setCell ⟨gb216, 3, none⟩ (.int .i64 t221)).setCell ⟨gb216, 4, none⟩ (.int .i64 t222)).setCell ⟨gb216, 5, none⟩ (.bool t223))) ?hg ?ho ?hn ?hr ?_; (case ho => rfl); (case hg => rfl); (case hn => rfl); (case hr => first | (go_simp; done) | (go_simp; rfl)); intro w18 hw; have n0_ := bf6 hw NB214_216 BK214; have n1_ := bf6 hw NB215_216 BK215; have n2_ := bp6 #[.int .u64 t218, .int .u64 t219, .int .u64 t220, .int .i64 t221, .int .i64 t222, .bool t223] hw BK216; have n3_ : Aside0 (Below w.heap.size w w18) := ⟨(by rw [hw]; exact (uc HB.out))⟩; revert n0_ n1_ n2_ n3_; clear hw BK214 BK215 BK216 HB; intro BK214 BK215 BK216 HB))
   refine bodyPost_ret (results_cell_row rfl _ _ gb216 37 #[.int .u64 t218, .int .u64 t219, .int .u64 t220, .int .i64 t221, .int .i64 t222, .bool t223] (0, 0) _ rfl (ub BK216.out) Try.underlying37 rfl (by kernel_rfl)) rfl ?_
   exact ur (uc HB.out)
  ·replace c5 := Bool.eq_false_iff.mpr c5
   subst c5
   have H1 : ((cap_key.f a1_0 a1_1 a1_2 a1_3 a1_4 a1_5 32).bind fun t224 => (if t224 = true then (some (a0_0, a0_1, a0_2, a0_3, wrap64 (a1_2), true)) else ((cap_Clear.f a0_0 a0_1 a0_2 a0_3 a0_4 true).bind fun bt225 => (some (bt225.1, bt225.2.1, bt225.2.2.1, bt225.2.2.2.1, bt225.2.2.2.2.1, bt225.2.2.2.2.2))))) = some (r1, r2, r3, r4, r5, r6) := by rw [if_neg (show ¬ (false = true) by decide)] at H; exact H
   clear H
   have H := H1
   clear H1
   replace H := Option.bind_eq_some_iff.mp H
   obtain ⟨t224, A190, H⟩ := H
   replace H : (if t224 = true then (some (a0_0, a0_1, a0_2, a0_3, wrap64 (a1_2), true)) else ((cap_Clear.f a0_0 a0_1 a0_2 a0_3 a0_4 true).bind fun bt225 => (some (bt225.1, bt225.2.1, bt225.2.2.1, bt225.2.2.2.1, bt225.2.2.2.2.1, bt225.2.2.2.2.2)))) = some (r1, r2, r3, r4, r5, r6) := H
   have A19 := am A190
   clear A190
   by_cases c20 : t224 = true
   ·subst c20
    have H1 : (some (a0_0, a0_1, a0_2, a0_3, wrap64 (a1_2), true)) = some (r1, r2, r3, r4, r5, r6) := by rw [if_pos rfl] at H; exact H
    clear H
    have H := H1
    clear H1
    simp only [Option.some.injEq, Prod.mk.injEq] at H
    obtain ⟨rfl, rfl, rfl, rfl, rfl, rfl⟩ := H
    go_enter Try.func29, Try.ntmps29
    go_wp2_with (first | ((with_reducible refine gate_dst (N := 2) rfl ?_); refine box_event ?hg (N := 2) ?hd (cs := #[.int .u64 a0_0, .int .u64 a0_1, .int .u64 a0_2, .int .i64 a0_3, .int .i64 a0_4, .bool true]) (t := 37) ?hr ?_; (case hd => rfl); (case hg => rfl); (case hr => first | (go_simp; done) | (go_simp; rfl)); intro gb214 hg w21 hbox hb; have n0_ := bs HB hb; have n1_ := am (hbox); have n2_ := nz HB hg; have n3_ := nz HB hg; revert n0_ n1_ n2_ n3_; clear HB; intro HB BK214 GW214 GE214; clear hb hbox hg) | ((with_reducible refine gate_dst (N := 3) rfl ?_); refine box_event ?hg (N := 3) ?hd (cs := #[.int .u64 a1_0, .int .u64 a1_1, .int .u64 a1_2, .int .i64 a1_3, .int .i64 a1_4, .bool a1_5]) (t := 37) ?hr ?_; (case hd => rfl); (case hg => rfl); (case hr => first | (go_simp; done) | (go_simp; rfl)); intro gb215 hg w22 hbox hb; have n0_ := bw BK214 hb; have n1_ := bs HB hb; have n2_ := am (hbox); have n3_ := nz HB hg; have n4_ := nz HB hg; have n5_ := nl BK214 hg; have n6_ := nr BK214 hg; revert n0_ n1_ n2_ n3_ n4_ n5_ n6_; clear BK214 HB; intro BK214 HB BK215 GW215 GE215 NB214_215 NB215_214; clear hb hbox hg) | ((with_reducible refine gate_dst (N := 4) rfl ?_); refine box_event ?hg (N := 4) ?hd (cs := #[.int .u64 0, .int .u64 0, .int .u64 0, .int .i64 0, .int .i64 0, .bool false]) (t := 37) ?hr ?_; (case hd => rfl); (case hg => rfl); (case hr => first | (go_simp; done) | (go_simp; rfl)); intro gb216 hg w23 hbox hb; have n0_ := bw BK214 hb; have n1_ := bw BK215 hb; have n2_ := bs HB hb; have n3_ := am (hbox); have n4_ := nz HB hg; have n5_ := nz HB hg; have n6_ := nl BK214 hg; have n7_ := nr BK214 hg; have n8_ := nl BK215 hg; have n9_ := nr BK215 hg; revert n0_ n1_ n2_ n3_ n4_ n5_ n6_ n7_ n8_ n9_; clear BK214 BK215 HB; intro BK214 BK215 HB BK216 GW216 GE216 NB214_216 NB216_214 NB215_216 NB216_215; clear hb hbox hg; have hnb24 := NB214_215.out; have hnc24 := NB215_214.out; have hnb25 := NB214_216.out; have hnc25 := NB216_214.out; obtain ⟨hcz26_0, hcz26_1, hcz26_2, hcz26_3, hcz26_4, hcz26_5, hfz26_0, hfz26_1, hfz26_2, hfz26_3, hfz26_4, hfz26_5⟩ := cells6 BK214.out) | (go_at_call 52; (with_reducible refine (cap_sealed.calls a0_0 a0_1 a0_2 a0_3 a0_4 true false _ A4.out).mono ?_); rintro e w27 ⟨rfl, hb⟩; have n0_ := bw BK214 hb; have n1_ := bw BK215 hb; have n2_ := bw BK216 hb; have n3_ := bs HB hb; revert n0_ n1_ n2_ n3_; clear BK214 BK215 BK216 HB; intro BK214 BK215 BK216 HB; (try clear hb); have hnb28 := NB215_216.out; have hnc28 := NB216_215.out; obtain ⟨hcz29_0, hcz29_1, hcz29_2, hcz29_3, hcz29_4, hcz29_5, hfz29_0, hfz29_1, hfz29_2, hfz29_3, hfz29_4, hfz29_5⟩ := cells6 BK215.out) | (go_at_call 53; (with_reducible refine (cap_key.calls a1_0 a1_1 a1_2 a1_3 a1_4 a1_5 32 true _ A19.out).mono ?_); rintro e w30 ⟨rfl, hb⟩; have n0_ := bw BK214 hb; have n1_ := bw BK215 hb; have n2_ := bw BK216 hb; have n3_ := bs HB hb; revert n0_ n1_ n2_ n3_; clear BK214 BK215 BK216 HB; intro BK214 BK215 BK216 HB; (try clear hb); obtain ⟨hcz31_0, hcz31_1, hcz31_2, hcz31_3, hcz31_4, hcz31_5, hfz31_0, hfz31_1, hfz31_2, hfz31_3, hfz31_4, hfz31_5⟩ := cells6 BK215.out; obtain ⟨hcz32_0, hcz32_1, hcz32_2, hcz32_3, hcz32_4, hcz32_5, hfz32_0, hfz32_1, hfz32_2, hfz32_3, hfz32_4, hfz32_5⟩ := cells6 BK214.out; obtain ⟨hcz33_0, hcz33_1, hcz33_2, hcz33_3, hcz33_4, hcz33_5, hfz33_0, hfz33_1, hfz33_2, hfz33_3, hfz33_4, hfz33_5⟩ := cells6 BK216.out) | ((with_reducible refine gate_store (t := 37) (p := 4) rfl ?_); refine store_event (t := 37) (p := 4) (v := ?vo_w34) (w1 := (((((((w30.setCell ⟨gb214, 4, none⟩ (.int .i64 (wrap64 (a1_2)))).setCell ⟨gb216, 0, none⟩ (.int .u64 a0_0)).setCell ⟨gb216, 1, none⟩ (.int .u64 a0_1)).setCell ⟨gb216, 2, none⟩ (.int .u64 a0_2)).setCell ⟨gb216, 3, none⟩ (.int .i64 a0_3)).setCell ⟨gb216, 4, none⟩ (.int .i64 (wrap64 (a1_2)))).setCell ⟨gb216, 5, none⟩ (.bool true))) ?hg ?ho ?hn ?hr ?_; (case ho => rfl); (case hg => rfl); (case hn => rfl); (case hr => first | (go_simp; done) | (go_simp; rfl)); intro w34 hw; have n0_ : Aside0 (w34.heap[gb214]? = some (.cells #[.int .u64 a0_0, .int .u64 a0_1, .int .u64 a0_2, .int .i64 a0_3, .int .i64 (wrap64 (a1_2)), .bool true] 37 (0, 0))) := ⟨(by rw [hw]; exact (by (iterate 6 ((with_reducible repeat (first | refine blk_drewN ?_ _ | refine blk_drew ?_ | refine blk_alloc ?_ _)); refine blk_far ?_ NB214_216.out _)); (with_reducible repeat (first | refine blk_drewN ?_ _ | refine blk_drew ?_ | refine blk_alloc ?_ _)); refine blk_put (cs := #[.int .u64 a0_0, .int .u64 a0_1, .int .u64 a0_2, .int .i64 a0_3, .int .i64 a0_4, .bool true]) ?_ 4 _ rfl; (with_reducible repeat (first | refine blk_drewN ?_ _ | refine blk_drew ?_ | refine blk_alloc ?_ _)); exact BK214.out))⟩; have n1_ : Aside0 (w34.heap[gb215]? = some (.cells #[.int .u64 a1_0, .int .u64 a1_1, .int .u64 a1_2, .int .i64 a1_3, .int .i64 a1_4, .bool a1_5] 37 (0, 0))) := ⟨(by rw [hw]; exact (by (iterate 6 ((with_reducible repeat (first | refine blk_drewN ?_ _ | refine blk_drew ?_ | refine blk_alloc ?_ _)); refine blk_far ?_ NB215_216.out _)); (with_reducible repeat (first | refine blk_drewN ?_ _ | refine blk_drew ?_ | refine blk_alloc ?_ _)); refine blk_far ?_ NB215_214.out _; (with_reducible repeat (first | refine blk_drewN ?_ _ | refine blk_drew ?_ | refine blk_alloc ?_ _)); exact BK215.out))⟩; have n2_ : Aside0 (w34.heap[gb216]? = some (.cells #[.int .u64 a0_0, .int .u64 a0_1, .int .u64 a0_2, .int .i64 a0_3, .int .i64 (wrap64 (a1_2)), .bool true] 37 (0, 0))) := ⟨(by rw [hw]; exact (by (with_reducible repeat (first | refine blk_drewN ?_ _ | refine blk_drew ?_ | refine blk_alloc ?_ _)); refine blk_put (cs := #[.int .u64 a0_0, .int .u64 a0_1, .int .u64 a0_2, .int .i64 a0_3, .int .i64 (wrap64 (a1_2)), .bool false]) ?_ 5 _ rfl; (with_reducible repeat (first | refine blk_drewN ?_ _ | refine blk_drew ?_ | refine blk_alloc ?_ _)); refine blk_put (cs := #[.int .u64 a0_0, .int .u64 a0_1, .int .u64 a0_2, .int .i64 a0_3, .int .i64 0, .bool false]) ?_ 4 _ rfl; (with_reducible repeat (first | refine blk_drewN ?_ _ | refine blk_drew ?_ | refine blk_alloc ?_ _)); refine blk_put (cs := #[.int .u64 a0_0, .int .u64 a0_1, .int .u64 a0_2, .int .i64 0, .int .i64 0, .bool false]) ?_ 3 _ rfl; (with_reducible repeat (first | refine blk_drewN ?_ _ | refine blk_drew ?_ | refine blk_alloc ?_ _)); refine blk_put (cs := #[.int .u64 a0_0, .int .u64 a0_1, .int .u64 0, .int .i64 0, .int .i64 0, .bool false]) ?_ 2 _ rfl; (with_reducible repeat (first | refine blk_drewN ?_ _ | refine blk_drew ?_ | refine blk_alloc ?_ _)); refine blk_put (cs := #[.int .u64 a0_0, .int .u64 0, .int .u64 0, .int .i64 0, .int .i64 0, .bool false]) ?_ 1 _ rfl; (with_reducible repeat (first | refine blk_drewN ?_ _ | refine blk_drew ?_ | refine blk_alloc ?_ _)); refine blk_put (cs := #[.int .u64 0, .int .u64 0, .int .u64 0, .int .i64 0, .int .i64 0, .bool false]) ?_ 0 _ rfl; (with_reducible repeat (first | refine blk_drewN ?_ _ | refine blk_drew ?_ | refine blk_alloc ?_ _)); refine blk_far ?_ NB216_214.out _; (with_reducible repeat (first | refine blk_drewN ?_ _ | refine blk_drew ?_ | refine blk_alloc ?_ _)); exact BK216.out))⟩; have n3_ : Aside0 (Below w.heap.size w w34) := ⟨(by rw [hw]; exact (uc HB.out))⟩; revert n0_ n1_ n2_ n3_; clear hw BK214 BK215 BK216 HB; intro BK214 BK215 BK216 HB))
    refine bodyPost_ret (results_cell_row rfl _ _ gb216 37 #[.int .u64 a0_0, .int .u64 a0_1, .int .u64 a0_2, .int .i64 a0_3, .int .i64 (wrap64 (a1_2)), .bool true] (0, 0) _ rfl (ub BK216.out) Try.underlying37 rfl (by kernel_rfl)) rfl ?_
    exact ur (uc HB.out)
   ·replace c20 := Bool.eq_false_iff.mpr c20
    subst c20
    have H1 : ((cap_Clear.f a0_0 a0_1 a0_2 a0_3 a0_4 true).bind fun bt225 => (some (bt225.1, bt225.2.1, bt225.2.2.1, bt225.2.2.2.1, bt225.2.2.2.2.1, bt225.2.2.2.2.2))) = some (r1, r2, r3, r4, r5, r6) := by rw [if_neg (show ¬ (false = true) by decide)] at H; exact H
    clear H
    have H := H1
    clear H1
    replace H := Option.bind_eq_some_iff.mp H
    obtain ⟨⟨t225, t226, t227, t228, t229, t230⟩, A350, H⟩ := H
    replace H : (some (t225, t226, t227, t228, t229, t230)) = some (r1, r2, r3, r4, r5, r6) := H
    have A35 := am A350
    clear A350
    simp only [Option.some.injEq, Prod.mk.injEq] at H
    obtain ⟨rfl, rfl, rfl, rfl, rfl, rfl⟩ := H
    go_enter Try.func29, Try.ntmps29
    go_wp2_with (first | ((with_reducible refine gate_dst (N := 2) rfl ?_); refine box_event ?hg (N := 2) ?hd (cs := #[.int .u64 a0_0, .int .u64 a0_1, .int .u64 a0_2, .int .i64 a0_3, .int .i64 a0_4, .bool true]) (t := 37) ?hr ?_; (case hd => rfl); (case hg => rfl); (case hr => first | (go_simp; done) | (go_simp; rfl)); intro gb214 hg w36 hbox hb; have n0_ := bs HB hb; have n1_ := am (hbox); have n2_ := nz HB hg; have n3_ := nz HB hg; revert n0_ n1_ n2_ n3_; clear HB; intro HB BK214 GW214 GE214; clear hb hbox hg) | ((with_reducible refine gate_dst (N := 3) rfl ?_); refine box_event ?hg (N := 3) ?hd (cs := #[.int .u64 a1_0, .int .u64 a1_1, .int .u64 a1_2, .int .i64 a1_3, .int .i64 a1_4, .bool a1_5]) (t := 37) ?hr ?_; (case hd => rfl); (case hg => rfl); (case hr => first | (go_simp; done) | (go_simp; rfl)); intro gb215 hg w37 hbox hb; have n0_ := bw BK214 hb; have n1_ := bs HB hb; have n2_ := am (hbox); have n3_ := nz HB hg; have n4_ := nz HB hg; have n5_ := nl BK214 hg; have n6_ := nr BK214 hg; revert n0_ n1_ n2_ n3_ n4_ n5_ n6_; clear BK214 HB; intro BK214 HB BK215 GW215 GE215 NB214_215 NB215_214; clear hb hbox hg) | ((with_reducible refine gate_dst (N := 4) rfl ?_); refine box_event ?hg (N := 4) ?hd (cs := #[.int .u64 0, .int .u64 0, .int .u64 0, .int .i64 0, .int .i64 0, .bool false]) (t := 37) ?hr ?_; (case hd => rfl); (case hg => rfl); (case hr => first | (go_simp; done) | (go_simp; rfl)); intro gb216 hg w38 hbox hb; have n0_ := bw BK214 hb; have n1_ := bw BK215 hb; have n2_ := bs HB hb; have n3_ := am (hbox); have n4_ := nz HB hg; have n5_ := nz HB hg; have n6_ := nl BK214 hg; have n7_ := nr BK214 hg; have n8_ := nl BK215 hg; have n9_ := nr BK215 hg; revert n0_ n1_ n2_ n3_ n4_ n5_ n6_ n7_ n8_ n9_; clear BK214 BK215 HB; intro BK214 BK215 HB BK216 GW216 GE216 NB214_216 NB216_214 NB215_216 NB216_215; clear hb hbox hg; have hnb39 := NB214_215.out; have hnc39 := NB215_214.out; have hnb40 := NB214_216.out; have hnc40 := NB216_214.out; obtain ⟨hcz41_0, hcz41_1, hcz41_2, hcz41_3, hcz41_4, hcz41_5, hfz41_0, hfz41_1, hfz41_2, hfz41_3, hfz41_4, hfz41_5⟩ := cells6 BK214.out) | (go_at_call 52; (with_reducible refine (cap_sealed.calls a0_0 a0_1 a0_2 a0_3 a0_4 true false _ A4.out).mono ?_); rintro e w42 ⟨rfl, hb⟩; have n0_ := bw BK214 hb; have n1_ := bw BK215 hb; have n2_ := bw BK216 hb; have n3_ := bs HB hb; revert n0_ n1_ n2_ n3_; clear BK214 BK215 BK216 HB; intro BK214 BK215 BK216 HB; (try clear hb); have hnb43 := NB215_216.out; have hnc43 := NB216_215.out; obtain ⟨hcz44_0, hcz44_1, hcz44_2, hcz44_3, hcz44_4, hcz44_5, hfz44_0, hfz44_1, hfz44_2, hfz44_3, hfz44_4, hfz44_5⟩ := cells6 BK215.out) | (go_at_call 53; (with_reducible refine (cap_key.calls a1_0 a1_1 a1_2 a1_3 a1_4 a1_5 32 false _ A19.out).mono ?_); rintro e w45 ⟨rfl, hb⟩; have n0_ := bw BK214 hb; have n1_ := bw BK215 hb; have n2_ := bw BK216 hb; have n3_ := bs HB hb; revert n0_ n1_ n2_ n3_; clear BK214 BK215 BK216 HB; intro BK214 BK215 BK216 HB; (try clear hb); obtain ⟨hcz46_0, hcz46_1, hcz46_2, hcz46_3, hcz46_4, hcz46_5, hfz46_0, hfz46_1, hfz46_2, hfz46_3, hfz46_4, hfz46_5⟩ := cells6 BK214.out) | ((with_reducible refine gate_dst (N := 18) rfl ?_); (with_reducible refine gate_callee (f := 51) rfl ?_); refine gl (some 18) Try.func51 #[.agg #[.int .u64 a0_0, .int .u64 a0_1, .int .u64 a0_2, .int .i64 a0_3, .int .i64 a0_4, .bool true]] ?_; (with_reducible refine (cap_Clear.calls a0_0 a0_1 a0_2 a0_3 a0_4 true t225 t226 t227 t228 t229 t230 _ A35.out).mono ?_); rintro e w47 ⟨rfl, hb⟩; refine ⟨_, rfl, ?_⟩; have n0_ := bw BK214 hb; have n1_ := bw BK215 hb; have n2_ := bw BK216 hb; have n3_ := bs HB hb; revert n0_ n1_ n2_ n3_; clear BK214 BK215 BK216 HB; intro BK214 BK215 BK216 HB; (try clear hb); obtain ⟨hcz48_0, hcz48_1, hcz48_2, hcz48_3, hcz48_4, hcz48_5, hfz48_0, hfz48_1, hfz48_2, hfz48_3, hfz48_4, hfz48_5⟩ := cells6 BK216.out) | ((with_reducible refine gate_store (t := 37) (p := 4) rfl ?_); refine store_event (t := 37) (p := 4) (v := ?vo_w49) (w1 := ((((((w47.setCell ⟨gb216, 0, none⟩ (.int .u64 t225)).setCell ⟨gb216, 1, none⟩ (.int .u64 t226)).setCell ⟨gb216, 2, none⟩ (.int .u64 t227)).setCell ⟨gb216, 3, none⟩ (.int .i64 t228)).setCell ⟨gb216, 4, none⟩ (.int .i64 t229)).setCell ⟨gb216, 5, none⟩ (.bool t230))) ?hg ?ho ?hn ?hr ?_; (case ho => rfl); (case hg => rfl); (case hn => rfl); (case hr => first | (go_simp; done) | (go_simp; rfl)); intro w49 hw; have n0_ := bf6 hw NB214_216 BK214; have n1_ := bf6 hw NB215_216 BK215; have n2_ := bp6 #[.int .u64 t225, .int .u64 t226, .int .u64 t227, .int .i64 t228, .int .i64 t229, .bool t230] hw BK216; have n3_ : Aside0 (Below w.heap.size w w49) := ⟨(by rw [hw]; exact (uc HB.out))⟩; revert n0_ n1_ n2_ n3_; clear hw BK214 BK215 BK216 HB; intro BK214 BK215 BK216 HB))
    refine bodyPost_ret (results_cell_row rfl _ _ gb216 37 #[.int .u64 t225, .int .u64 t226, .int .u64 t227, .int .i64 t228, .int .i64 t229, .bool t230] (0, 0) _ rfl (ub BK216.out) Try.underlying37 rfl (by kernel_rfl)) rfl ?_
    exact ur (uc HB.out)
 ·replace c3 := Bool.eq_false_iff.mpr c3
  subst c3
  have H1 : ((cap_Clear.f a0_0 a0_1 a0_2 a0_3 a0_4 false).bind fun bt231 => (some (bt231.1, bt231.2.1, bt231.2.2.1, bt231.2.2.2.1, bt231.2.2.2.2.1, bt231.2.2.2.2.2))) = some (r1, r2, r3, r4, r5, r6) := by rw [if_neg (show ¬ (false = true) by decide)] at H; exact H
  clear H
  have H := H1
  clear H1
  replace H := Option.bind_eq_some_iff.mp H
  obtain ⟨⟨t231, t232, t233, t234, t235, t236⟩, A500, H⟩ := H
  replace H : (some (t231, t232, t233, t234, t235, t236)) = some (r1, r2, r3, r4, r5, r6) := H
  have A50 := am A500
  clear A500
  simp only [Option.some.injEq, Prod.mk.injEq] at H
  obtain ⟨rfl, rfl, rfl, rfl, rfl, rfl⟩ := H
  go_enter Try.func29, Try.ntmps29
  go_wp2_with (first | ((with_reducible refine gate_dst (N := 2) rfl ?_); refine box_event ?hg (N := 2) ?hd (cs := #[.int .u64 a0_0, .int .u64 a0_1, .int .u64 a0_2, .int .i64 a0_3, .int .i64 a0_4, .bool false]) (t := 37) ?hr ?_; (case hd => rfl); (case hg => rfl); (case hr => first | (go_simp; done) | (go_simp; rfl)); intro gb214 hg w51 hbox hb; have n0_ := bs HB hb; have n1_ := am (hbox); have n2_ := nz HB hg; have n3_ := nz HB hg; revert n0_ n1_ n2_ n3_; clear HB; intro HB BK214 GW214 GE214; clear hb hbox hg) | ((with_reducible refine gate_dst (N := 3) rfl ?_); refine box_event ?hg (N := 3) ?hd (cs := #[.int .u64 a1_0, .int .u64 a1_1, .int .u64 a1_2, .int .i64 a1_3, .int .i64 a1_4, .bool a1_5]) (t := 37) ?hr ?_; (case hd => rfl); (case hg => rfl); (case hr => first | (go_simp; done) | (go_simp; rfl)); intro gb215 hg w52 hbox hb; have n0_ := bw BK214 hb; have n1_ := bs HB hb; have n2_ := am (hbox); have n3_ := nz HB hg; have n4_ := nz HB hg; have n5_ := nl BK214 hg; have n6_ := nr BK214 hg; revert n0_ n1_ n2_ n3_ n4_ n5_ n6_; clear BK214 HB; intro BK214 HB BK215 GW215 GE215 NB214_215 NB215_214; clear hb hbox hg) | ((with_reducible refine gate_dst (N := 4) rfl ?_); refine box_event ?hg (N := 4) ?hd (cs := #[.int .u64 0, .int .u64 0, .int .u64 0, .int .i64 0, .int .i64 0, .bool false]) (t := 37) ?hr ?_; (case hd => rfl); (case hg => rfl); (case hr => first | (go_simp; done) | (go_simp; rfl)); intro gb216 hg w53 hbox hb; have n0_ := bw BK214 hb; have n1_ := bw BK215 hb; have n2_ := bs HB hb; have n3_ := am (hbox); have n4_ := nz HB hg; have n5_ := nz HB hg; have n6_ := nl BK214 hg; have n7_ := nr BK214 hg; have n8_ := nl BK215 hg; have n9_ := nr BK215 hg; revert n0_ n1_ n2_ n3_ n4_ n5_ n6_ n7_ n8_ n9_; clear BK214 BK215 HB; intro BK214 BK215 HB BK216 GW216 GE216 NB214_216 NB216_214 NB215_216 NB216_215; clear hb hbox hg; have hnb54 := NB214_215.out; have hnc54 := NB215_214.out; have hnb55 := NB214_216.out; have hnc55 := NB216_214.out; obtain ⟨hcz56_0, hcz56_1, hcz56_2, hcz56_3, hcz56_4, hcz56_5, hfz56_0, hfz56_1, hfz56_2, hfz56_3, hfz56_4, hfz56_5⟩ := cells6 BK214.out) | ((with_reducible refine gate_dst (N := 18) rfl ?_); (with_reducible refine gate_callee (f := 51) rfl ?_); refine gl (some 18) Try.func51 #[.agg #[.int .u64 a0_0, .int .u64 a0_1, .int .u64 a0_2, .int .i64 a0_3, .int .i64 a0_4, .bool false]] ?_; (with_reducible refine (cap_Clear.calls a0_0 a0_1 a0_2 a0_3 a0_4 false t231 t232 t233 t234 t235 t236 _ A50.out).mono ?_); rintro e w57 ⟨rfl, hb⟩; refine ⟨_, rfl, ?_⟩; have n0_ := bw BK214 hb; have n1_ := bw BK215 hb; have n2_ := bw BK216 hb; have n3_ := bs HB hb; revert n0_ n1_ n2_ n3_; clear BK214 BK215 BK216 HB; intro BK214 BK215 BK216 HB; (try clear hb); have hnb58 := NB216_215.out; have hnc58 := NB215_216.out; obtain ⟨hcz59_0, hcz59_1, hcz59_2, hcz59_3, hcz59_4, hcz59_5, hfz59_0, hfz59_1, hfz59_2, hfz59_3, hfz59_4, hfz59_5⟩ := cells6 BK216.out) | ((with_reducible refine gate_store (t := 37) (p := 4) rfl ?_); refine store_event (t := 37) (p := 4) (v := ?vo_w60) (w1 := ((((((w57.setCell ⟨gb216, 0, none⟩ (.int .u64 t231)).setCell ⟨gb216, 1, none⟩ (.int .u64 t232)).setCell ⟨gb216, 2, none⟩ (.int .u64 t233)).setCell ⟨gb216, 3, none⟩ (.int .i64 t234)).setCell ⟨gb216, 4, none⟩ (.int .i64 t235)).setCell ⟨gb216, 5, none⟩ (.bool t236))) ?hg ?ho ?hn ?hr ?_; (case ho => rfl); (case hg => rfl); (case hn => rfl); (case hr => first | (go_simp; done) | (go_simp; rfl)); intro w60 hw; have n0_ := bf6 hw NB214_216 BK214; have n1_ := bf6 hw NB215_216 BK215; have n2_ := bp6 #[.int .u64 t231, .int .u64 t232, .int .u64 t233, .int .i64 t234, .int .i64 t235, .bool t236] hw BK216; have n3_ : Aside0 (Below w.heap.size w w60) := ⟨(by rw [hw]; exact (uc HB.out))⟩; revert n0_ n1_ n2_ n3_; clear hw BK214 BK215 BK216 HB; intro BK214 BK215 BK216 HB))
  refine bodyPost_ret (results_cell_row rfl _ _ gb216 37 #[.int .u64 t231, .int .u64 t232, .int .u64 t233, .int .i64 t234, .int .i64 t235, .bool t236] (0, 0) _ rfl (ub BK216.out) Try.underlying37 rfl (by kernel_rfl)) rfl ?_
  exact ur (uc HB.out)

def table_key.f (a0 : Int) : Option (Int × Int × Int × Int × Int × Bool) := (cap_Root.f 64).bind fun bt238 => ((cap_Move.f bt238.1 bt238.2.1 bt238.2.2.1 bt238.2.2.2.1 bt238.2.2.2.2.1 bt238.2.2.2.2.2 (IntKind.u64.wrap (a0))).bind fun bt244 => (some (bt244.1, bt244.2.1, bt244.2.2.1, bt244.2.2.2.1, bt244.2.2.2.2.1, bt244.2.2.2.2.2)))
set_option maxHeartbeats 8000000 in
set_option maxRecDepth 100000 in
theorem table_key.calls (a0 : Int) (r1 : Int) (r2 : Int) (r3 : Int) (r4 : Int) (r5 : Int) (r6 : Bool) (w : World) (h : table_key.f a0 = some (r1, r2, r3, r4, r5, r6)) :
  Calls Try.prog 30 #[.int .i64 a0] w fun e w' => e = .returned (.agg #[.int .u64 r1, .int .u64 r2, .int .u64 r3, .int .i64 r4, .int .i64 r5, .bool r6]) ∧ Below w.heap.size w w' := by
 have hu37 := Try.underlying37
 have HB := am (Below.refl w.heap.size w)
 have H : ((cap_Root.f 64).bind fun bt238 => ((cap_Move.f bt238.1 bt238.2.1 bt238.2.2.1 bt238.2.2.2.1 bt238.2.2.2.2.1 bt238.2.2.2.2.2 (IntKind.u64.wrap (a0))).bind fun bt244 => (some (bt244.1, bt244.2.1, bt244.2.2.1, bt244.2.2.2.1, bt244.2.2.2.2.1, bt244.2.2.2.2.2)))) = some (r1, r2, r3, r4, r5, r6) := h
 clear h
 replace H := Option.bind_eq_some_iff.mp H
 obtain ⟨⟨t238, t239, t240, t241, t242, t243⟩, A20, H⟩ := H
 replace H : ((cap_Move.f t238 t239 t240 t241 t242 t243 (IntKind.u64.wrap (a0))).bind fun bt244 => (some (bt244.1, bt244.2.1, bt244.2.2.1, bt244.2.2.2.1, bt244.2.2.2.2.1, bt244.2.2.2.2.2))) = some (r1, r2, r3, r4, r5, r6) := H
 have A2 := am A20
 clear A20
 replace H := Option.bind_eq_some_iff.mp H
 obtain ⟨⟨t244, t245, t246, t247, t248, t249⟩, A30, H⟩ := H
 replace H : (some (t244, t245, t246, t247, t248, t249)) = some (r1, r2, r3, r4, r5, r6) := H
 have A3 := am A30
 clear A30
 simp only [Option.some.injEq, Prod.mk.injEq] at H
 obtain ⟨rfl, rfl, rfl, rfl, rfl, rfl⟩ := H
 go_enter Try.func30, Try.ntmps30
 go_wp2_with (first | ((with_reducible refine gate_dst (N := 2) rfl ?_); refine box_event ?hg (N := 2) ?hd (cs := #[.int .u64 0, .int .u64 0, .int .u64 0, .int .i64 0, .int .i64 0, .bool false]) (t := 37) ?hr ?_; (case hd => rfl); (case hg => rfl); (case hr => first | (go_simp; done) | (go_simp; rfl)); intro gb237 hg w4 hbox hb; have n0_ := bs HB hb; have n1_ := am (hbox); have n2_ := nz HB hg; have n3_ := nz HB hg; revert n0_ n1_ n2_ n3_; clear HB; intro HB BK237 GW237 GE237; clear hb hbox hg) | ((with_reducible refine gate_dst (N := 3) rfl ?_); (with_reducible refine gate_callee (f := 54) rfl ?_); refine gl (some 3) Try.func54 #[.int .u64 64] ?_; (with_reducible refine (cap_Root.calls 64 t238 t239 t240 t241 t242 t243 _ A2.out).mono ?_); rintro e w5 ⟨rfl, hb⟩; refine ⟨_, rfl, ?_⟩; have n0_ := bw BK237 hb; have n1_ := bs HB hb; revert n0_ n1_; clear BK237 HB; intro BK237 HB; (try clear hb)) | ((with_reducible refine gate_dst (N := 6) rfl ?_); (with_reducible refine gate_callee (f := 26) rfl ?_); refine gl (some 6) Try.func26 #[.agg #[.int .u64 t238, .int .u64 t239, .int .u64 t240, .int .i64 t241, .int .i64 t242, .bool t243], .int .u64 (IntKind.u64.wrap (a0))] ?_; (with_reducible refine (cap_Move.calls t238 t239 t240 t241 t242 t243 (IntKind.u64.wrap (a0)) t244 t245 t246 t247 t248 t249 _ A3.out).mono ?_); rintro e w6 ⟨rfl, hb⟩; refine ⟨_, rfl, ?_⟩; have n0_ := bw BK237 hb; have n1_ := bs HB hb; revert n0_ n1_; clear BK237 HB; intro BK237 HB; (try clear hb); obtain ⟨hcz7_0, hcz7_1, hcz7_2, hcz7_3, hcz7_4, hcz7_5, hfz7_0, hfz7_1, hfz7_2, hfz7_3, hfz7_4, hfz7_5⟩ := cells6 BK237.out) | ((with_reducible refine gate_store (t := 37) (p := 2) rfl ?_); refine store_event (t := 37) (p := 2) (v := ?vo_w8) (w1 := ((((((w6.setCell ⟨gb237, 0, none⟩ (.int .u64 t244)).setCell ⟨gb237, 1, none⟩ (.int .u64 t245)).setCell ⟨gb237, 2, none⟩ (.int .u64 t246)).setCell ⟨gb237, 3, none⟩ (.int .i64 t247)).setCell ⟨gb237, 4, none⟩ (.int .i64 t248)).setCell ⟨gb237, 5, none⟩ (.bool t249))) ?hg ?ho ?hn ?hr ?_; (case ho => rfl); (case hg => rfl); (case hn => rfl); (case hr => first | (go_simp; done) | (go_simp; rfl)); intro w8 hw; have n0_ := bp6 #[.int .u64 t244, .int .u64 t245, .int .u64 t246, .int .i64 t247, .int .i64 t248, .bool t249] hw BK237; have n1_ : Aside0 (Below w.heap.size w w8) := ⟨(by rw [hw]; exact (uc HB.out))⟩; revert n0_ n1_; clear hw BK237 HB; intro BK237 HB))
 refine bodyPost_ret (results_cell_row rfl _ _ gb237 37 #[.int .u64 t244, .int .u64 t245, .int .u64 t246, .int .i64 t247, .int .i64 t248, .bool t249] (0, 0) _ rfl (ub BK237.out) Try.underlying37 rfl (by kernel_rfl)) rfl ?_
 exact ur (uc HB.out)

theorem ret_owi {k : IntKind} {a b : Int} (h : a = b) : Ending.returned (.int k a) = .returned (.int k b) := by rw [h]
theorem ret_ow {a b : Bool} (h : a = b) : Ending.returned (.bool a) = .returned (.bool b) := by rw [h]
/-- The first place of a list that has p; -1: there is none. -/
def firstW {α : Type} (p : α → Bool) (l : List α) : Int := match l.findIdx? p with | none => -1 | some i => (i : Int)
theorem firstW_here {α : Type} {p : α → Bool} {l : List α} {d : α} {j : Nat} (hj : j < l.length) (hb : ∀ i, i < j → p (l.getD i d) = false) (h : p (l.getD j d) = true) : firstW p l = j := by
  have e : l.findIdx? p = some j := by
    rw [List.findIdx?_eq_some_iff_getElem]
    refine ⟨hj, by simpa [List.getD_eq_getElem?_getD, List.getElem?_eq_getElem hj] using h, fun i hi => ?_⟩
    have := hb i hi
    simpa [List.getD_eq_getElem?_getD, List.getElem?_eq_getElem (show i < l.length by omega)] using this
  unfold firstW; rw [e]
theorem firstW_none {α : Type} {p : α → Bool} {l : List α} {d : α} (hb : ∀ i, i < l.length → p (l.getD i d) = false) : firstW p l = -1 := by
  have e : l.findIdx? p = none := by
    rw [List.findIdx?_eq_none_iff]
    intro x hx
    obtain ⟨i, hi, rfl⟩ := List.getElem_of_mem hx
    have := hb i hi
    simpa [List.getD_eq_getElem?_getD, List.getElem?_eq_getElem hi] using this
  unfold firstW; rw [e]
def segW (s : S67) : Bool := !((Go.bits .and .i64 s.f2 2) == 0)
set_option maxHeartbeats 1000000 in
set_option maxRecDepth 100000 in
theorem image_Own_1.calls (x : S67) (A : Option Addr) (c : Nat) (w : World) :
  Calls Try.prog 55 #[.agg #[.int .u64 x.f0, .int .u64 x.f1, .int .i64 x.f2, .slice A x.f3.length c]] w fun e w' => e = .returned (.bool (segW x)) ∧ Below w.heap.size w w' := by
 have hu := Try.underlying67
 by_cases c1 : Go.bits .and .i64 x.f2 2 = 0
 ·have b1 : (Go.bits .and .i64 x.f2 2 == 0) = true := beq_iff_eq.mpr c1
  have b2 : (Go.bits .and .i64 x.f2 2 != 0) = false := bne_eq_false_iff_eq.mpr c1
  have E := am (show segW x = false by unfold segW; rw [b1]; rfl)
  clear c1
  go_enter Try.func55, Try.ntmps55
  go_wp2
  go_ret
  exact ⟨ret_ow (by rw [E.out]), (Below.refl _ _).alloc (Nat.le_refl _) _⟩
 ·have b1 : (Go.bits .and .i64 x.f2 2 == 0) = false := beq_eq_false_iff_ne.mpr c1
  have b2 : (Go.bits .and .i64 x.f2 2 != 0) = true := bne_iff_ne.mpr c1
  have E := am (show segW x = true by unfold segW; rw [b1]; rfl)
  clear c1
  go_enter Try.func55, Try.ntmps55
  go_wp2
  go_ret
  exact ⟨ret_ow (by rw [E.out]), (Below.refl _ _).alloc (Nat.le_refl _) _⟩
def api_Segment.f (l0 : List S67) : Option Int := some (firstW segW l0)
set_option maxHeartbeats 1000000 in
set_option maxRecDepth 100000 in
theorem api_Segment.calls (A0 : Option Addr) (c0 : Nat) (l0 : List S67) (r : Int) (w : World) (hr0 : Kd.C k67 w A0 l0.length l0) (hc0 : l0.length ≤ c0) (h : api_Segment.f l0 = some r) :
  Calls Try.prog 47 #[.slice A0 l0.length c0, .func (.func 55) #[] #[]] w fun e w' => e = .returned (.int .i64 r) ∧ Below w.heap.size w w' := by
 obtain rfl := Option.some.inj h
 have HR0 := am hr0
 have HC0 := am hc0
 have hlen : l0.length ≤ 9223372036854775807 := hr0.2.1
 clear hr0 hc0 h
 go_enter Try.func47, Try.ntmps47
 go_wp2
 go_loopw [5, 8] (fun v5 v8 wr => ∃ (j : Nat), v8 = .int .i64 j ∧ j ≤ l0.length ∧ Aside0 (∀ i, i < j → segW (l0.getD i z67) = false) ∧ Aside0 (Below w.heap.size w wr)) (fun _ v8 _ => l0.length - (intOf v8).toNat)
 case atStart => exact ⟨0, rfl, by omega, ⟨fun i hi => by omega⟩, ⟨Below.refl _ _⟩⟩
 case round =>
  obtain ⟨j, rfl, hj, HF, HB⟩ := hrel
  by_cases hlt : j < l0.length
  ·have p1 : 0 ≤ (j : Int) := by omega
   have q1 : (j : Int) < l0.length := by omega
   obtain ⟨ad, A3, c3, eA, hx0, hx1, hx2, hx3, hl3, hi3⟩ := at_T67 (Kd.C_below HR0.out HB.out) (j : Int) p1 q1
   cases eA
   simp only [Int.toNat_natCast] at hx0 hx1 hx2 hx3
   clear hl3 hi3
   cases hb : segW (rd_T67 l0 (j : Int))
   ·have HN := am hb
    clear hb
    go_wp2_with (go_at_call 55; refine (image_Own_1.calls (rd_T67 l0 (j : Int)) _ _ _).mono ?_; rintro e w' ⟨rfl, hb⟩; have hr := HN.out; rw [hr]; clear hr; have HB2 := am (below_step HB.out hb); clear hb)
    go_roundw
    case rel => exact ⟨j + 1, by go_num, by omega, ⟨fun i hi => by
      rcases Nat.lt_succ_iff_lt_or_eq.1 hi with h | h
      ·exact HF.out i h
      ·subst h; exact HN.out⟩, HB2⟩
    case measure => simp [intOf]; omega
   ·have HN := am hb
    clear hb
    go_wp2_with (go_at_call 55; refine (image_Own_1.calls (rd_T67 l0 (j : Int)) _ _ _).mono ?_; rintro e w' ⟨rfl, hb⟩; have hr := HN.out; rw [hr]; clear hr; have HB2 := am (below_step HB.out hb); clear hb)
    go_ret
    exact ⟨ret_owi (firstW_here hlt HF.out HN.out).symm, HB2.out⟩
  ·go_wp2
   go_ret
   obtain rfl : j = l0.length := by omega
   exact ⟨ret_owi (firstW_none HF.out).symm, HB.out⟩

def image_Own.f (k : Nat) (a0_0 : ByteArray) (l0_1 : List ByteArray) (l0_2 : List (S67)) (l0_3 : List (S35)) (l0_4 : List (S72)) (l0_5 : List Int) (l0_6 : List Int) (a1 : Int) : Option (Int × Int × Int × Int × Int × Bool) := (api_Segment.f l0_2).bind fun t252 => (if t252 < 0 then ((image_of.f a1 0 129).bind fun bt253 => (some (bt253.1, bt253.2.1, bt253.2.2.1, bt253.2.2.2.1, bt253.2.2.2.2.1, bt253.2.2.2.2.2))) else (if 0 ≤ t252 then (if t252 < (l0_2.length : Int) then ((image_Perms.f k ((rd_T67 l0_2 t252).f2)).bind fun t261 => ((image_of.f (IntKind.u64.wrap (a1 + ((rd_T67 l0_2 t252).f0))) ((rd_T67 l0_2 t252).f1) (Go.bits .or .i64 t261 128)).bind fun bt262 => (some (bt262.1, bt262.2.1, bt262.2.2.1, bt262.2.2.2.1, bt262.2.2.2.2.1, bt262.2.2.2.2.2)))) else (none)) else (none)))
theorem image_Own.mono : ∀ a0 a1 a2 a3 a4 a5 a6 a7 k, LeO (image_Own.f k a0 a1 a2 a3 a4 a5 a6 a7) (image_Own.f (k + 1) a0 a1 a2 a3 a4 a5 a6 a7) := by
  intro a0 a1 a2 a3 a4 a5 a6 a7 k
  unfold image_Own.f
  repeat' first
      | (with_reducible exact image_Perms.mono _ _)
      | (with_reducible exact LeO.refl _)
      | (with_reducible exact LeO.none _)
      | (with_reducible refine LeO.ite ?_ ?_)
      | (with_reducible refine LeO.bind ?_ (fun _ => ?_))
      | exact image_Perms.mono _ _
      | exact LeO.none _
      | refine LeO.ite ?_ ?_
      | refine LeO.bind ?_ (fun _ => ?_)
def image_Own.T5 : Bool × List (List Nat × List Nat) := (true, [([], []), ([], []), ([1], [1]), ([0, 2], [0, 2]), ([], []), ([4], [4]), ([], []), ([6], [6]), ([7], [7]), ([8], [8]), ([3, 5, 9, 8], [3, 5, 9]), ([10, 10, 0, 1, 2, 3, 4, 5, 6, 7, 8, 9, 10], [10])])
def image_Own.B5 : List Nat := [0, 0, 2, 7, 0, 16, 0, 64, 192, 448, 1023, 2047]
theorem image_Own.tab5 : rtab .any (opsOf Try.f31 5) = image_Own.T5 := by kernel_rfl
theorem image_Own.bits5 : waitsOk image_Own.T5.2 image_Own.B5 = true := by kernel_rfl
set_option maxHeartbeats 8000000 in
set_option maxRecDepth 100000 in
theorem image_Own.calls (k : Nat) (a0_0 : ByteArray) (A0_1 : Option Addr) (c0_1 : Nat) (l0_1 : List ByteArray) (A0_2 : Option Addr) (c0_2 : Nat) (l0_2 : List (S67)) (A0_3 : Option Addr) (c0_3 : Nat) (l0_3 : List (S35)) (A0_4 : Option Addr) (c0_4 : Nat) (l0_4 : List (S72)) (A0_5 : Option Addr) (c0_5 : Nat) (l0_5 : List Int) (A0_6 : Option Addr) (c0_6 : Nat) (l0_6 : List Int) (a1 : Int) (r1 : Int) (r2 : Int) (r3 : Int) (r4 : Int) (r5 : Int) (r6 : Bool) (w : World) (hr0_1 : Kd.C Kd.string w A0_1 l0_1.length l0_1) (hc0_1 : l0_1.length ≤ c0_1) (hr0_2 : Kd.C k67 w A0_2 l0_2.length l0_2) (hc0_2 : l0_2.length ≤ c0_2) (hr0_3 : Kd.C k35 w A0_3 l0_3.length l0_3) (hc0_3 : l0_3.length ≤ c0_3) (hr0_4 : Kd.C k72 w A0_4 l0_4.length l0_4) (hc0_4 : l0_4.length ≤ c0_4) (hr0_5 : Kd.C (Kd.int .i64) w A0_5 l0_5.length l0_5) (hc0_5 : l0_5.length ≤ c0_5) (hr0_6 : Kd.C (Kd.int .i64) w A0_6 l0_6.length l0_6) (hc0_6 : l0_6.length ≤ c0_6) (h : image_Own.f k a0_0 l0_1 l0_2 l0_3 l0_4 l0_5 l0_6 a1 = some (r1, r2, r3, r4, r5, r6)) :
  Calls Try.prog 31 #[.agg #[.string a0_0, .slice A0_1 l0_1.length c0_1, .slice A0_2 l0_2.length c0_2, .slice A0_3 l0_3.length c0_3, .slice A0_4 l0_4.length c0_4, .slice A0_5 l0_5.length c0_5, .slice A0_6 l0_6.length c0_6], .int .u64 a1] w fun e w' => e = .returned (.agg #[.int .u64 r1, .int .u64 r2, .int .u64 r3, .int .i64 r4, .int .i64 r5, .bool r6]) ∧ Below w.heap.size w w' := by
 have hu28 := Try.underlying28
 have hu37 := Try.underlying37
 have hu67 := Try.underlying67
 have HR0_1 := am hr0_1
 have HC0_1 := am hc0_1
 clear hr0_1 hc0_1
 have HR0_2 := am hr0_2
 have HC0_2 := am hc0_2
 clear hr0_2 hc0_2
 have HR0_3 := am hr0_3
 have HC0_3 := am hc0_3
 clear hr0_3 hc0_3
 have HR0_4 := am hr0_4
 have HC0_4 := am hc0_4
 clear hr0_4 hc0_4
 have HR0_5 := am hr0_5
 have HC0_5 := am hc0_5
 clear hr0_5 hc0_5
 have HR0_6 := am hr0_6
 have HC0_6 := am hc0_6
 clear hr0_6 hc0_6
 have HB := am (Below.refl w.heap.size w)
 have H : ((api_Segment.f l0_2).bind fun t252 => (if t252 < 0 then ((image_of.f a1 0 129).bind fun bt253 => (some (bt253.1, bt253.2.1, bt253.2.2.1, bt253.2.2.2.1, bt253.2.2.2.2.1, bt253.2.2.2.2.2))) else (if 0 ≤ t252 then (if t252 < (l0_2.length : Int) then ((image_Perms.f k ((rd_T67 l0_2 t252).f2)).bind fun t261 => ((image_of.f (IntKind.u64.wrap (a1 + ((rd_T67 l0_2 t252).f0))) ((rd_T67 l0_2 t252).f1) (Go.bits .or .i64 t261 128)).bind fun bt262 => (some (bt262.1, bt262.2.1, bt262.2.2.1, bt262.2.2.2.1, bt262.2.2.2.2.1, bt262.2.2.2.2.2)))) else (none)) else (none)))) = some (r1, r2, r3, r4, r5, r6) := h
 clear h
 replace H := Option.bind_eq_some_iff.mp H
 obtain ⟨t252, A30, H⟩ := H
 replace H : (if t252 < 0 then ((image_of.f a1 0 129).bind fun bt253 => (some (bt253.1, bt253.2.1, bt253.2.2.1, bt253.2.2.2.1, bt253.2.2.2.2.1, bt253.2.2.2.2.2))) else (if 0 ≤ t252 then (if t252 < (l0_2.length : Int) then ((image_Perms.f k ((rd_T67 l0_2 t252).f2)).bind fun t261 => ((image_of.f (IntKind.u64.wrap (a1 + ((rd_T67 l0_2 t252).f0))) ((rd_T67 l0_2 t252).f1) (Go.bits .or .i64 t261 128)).bind fun bt262 => (some (bt262.1, bt262.2.1, bt262.2.2.1, bt262.2.2.2.1, bt262.2.2.2.2.1, bt262.2.2.2.2.2)))) else (none)) else (none))) = some (r1, r2, r3, r4, r5, r6) := H
 have A3 := am A30
 clear A30
 by_cases c4 : t252 < 0
 ·rw [if_pos c4] at H
  have c4b0 := decide_eq_true c4
  clear c4
  replace H := Option.bind_eq_some_iff.mp H
  obtain ⟨⟨t253, t254, t255, t256, t257, t258⟩, A50, H⟩ := H
  replace H : (some (t253, t254, t255, t256, t257, t258)) = some (r1, r2, r3, r4, r5, r6) := H
  have A5 := am A50
  clear A50
  simp only [Option.some.injEq, Prod.mk.injEq] at H
  obtain ⟨rfl, rfl, rfl, rfl, rfl, rfl⟩ := H
  go_enter Try.func31, Try.ntmps31
  go_wp2_with (first | ((with_reducible refine gate_dst (N := 2) rfl ?_); refine box_event ?hg (N := 2) ?hd (cs := #[.string a0_0, .slice A0_1 l0_1.length c0_1, .slice A0_2 l0_2.length c0_2, .slice A0_3 l0_3.length c0_3, .slice A0_4 l0_4.length c0_4, .slice A0_5 l0_5.length c0_5, .slice A0_6 l0_6.length c0_6]) (t := 28) ?hr ?_; (case hd => rfl); (case hg => rfl); (case hr => first | (go_simp; done) | (go_simp; rfl)); intro gb250 hg w6 hbox hb; have n0_ := bs HB hb; have n1_ := am (hbox); have n2_ := nz HB hg; have n3_ := nz HB hg; revert n0_ n1_ n2_ n3_; clear HB; intro HB BK250 GW250 GE250; clear hb hbox hg) | ((with_reducible refine gate_dst (N := 4) rfl ?_); refine box_event ?hg (N := 4) ?hd (cs := #[.int .u64 0, .int .u64 0, .int .u64 0, .int .i64 0, .int .i64 0, .bool false]) (t := 37) ?hr ?_; (case hd => rfl); (case hg => rfl); (case hr => first | (go_simp; done) | (go_simp; rfl)); intro gb251 hg w7 hbox hb; have n0_ := bw BK250 hb; have n1_ := bs HB hb; have n2_ := am (hbox); have n3_ := nz HB hg; have n4_ := nz HB hg; have n5_ := nl BK250 hg; have n6_ := nr BK250 hg; revert n0_ n1_ n2_ n3_ n4_ n5_ n6_; clear BK250 HB; intro BK250 HB BK251 GW251 GE251 NB250_251 NB251_250; clear hb hbox hg; have hnb8 := NB250_251.out; have hnc8 := NB251_250.out; obtain ⟨hcz9_0, hcz9_1, hcz9_2, hcz9_3, hcz9_4, hcz9_5, hcz9_6, hfz9_0, hfz9_1, hfz9_2, hfz9_3, hfz9_4, hfz9_5, hfz9_6⟩ := cells7 BK250.out) | ((with_reducible refine gate_dst (N := 9) rfl ?_); (with_reducible refine gate_callee (f := 47) rfl ?_); refine gl (some 9) Try.func47 #[.slice A0_2 l0_2.length c0_2, .func (.func 55) #[] #[]] ?_; (with_reducible refine (api_Segment.calls _ _ l0_2 t252 _ ?side1 ?side2 A3.out).mono ?_); (case side1 => exact us (Kd.C_below HR0_2.out HB.out)); (case side2 => exact HC0_2.out); rintro e w10 ⟨rfl, hb⟩; refine ⟨_, rfl, ?_⟩; have n0_ := bw BK250 hb; have n1_ := bw BK251 hb; have n2_ := bs HB hb; revert n0_ n1_ n2_; clear BK250 BK251 HB; intro BK250 BK251 HB; (try clear hb)) | ((with_reducible refine gate_dst (N := 13) rfl ?_); (with_reducible refine gate_callee (f := 45) rfl ?_); refine gl (some 13) Try.func45 #[.int .u64 a1, .int .u64 0, .int .i64 129] ?_; (with_reducible refine (image_of.calls a1 0 129 t253 t254 t255 t256 t257 t258 _ A5.out).mono ?_); rintro e w11 ⟨rfl, hb⟩; refine ⟨_, rfl, ?_⟩; have n0_ := bw BK250 hb; have n1_ := bw BK251 hb; have n2_ := bs HB hb; revert n0_ n1_ n2_; clear BK250 BK251 HB; intro BK250 BK251 HB; (try clear hb); obtain ⟨hcz12_0, hcz12_1, hcz12_2, hcz12_3, hcz12_4, hcz12_5, hfz12_0, hfz12_1, hfz12_2, hfz12_3, hfz12_4, hfz12_5⟩ := cells6 BK251.out) | ((with_reducible refine gate_store (t := 37) (p := 4) rfl ?_); refine store_event (t := 37) (p := 4) (v := ?vo_w13) (w1 := ((((((w11.setCell ⟨gb251, 0, none⟩ (.int .u64 t253)).setCell ⟨gb251, 1, none⟩ (.int .u64 t254)).setCell ⟨gb251, 2, none⟩ (.int .u64 t255)).setCell ⟨gb251, 3, none⟩ (.int .i64 t256)).setCell ⟨gb251, 4, none⟩ (.int .i64 t257)).setCell ⟨gb251, 5, none⟩ (.bool t258))) ?hg ?ho ?hn ?hr ?_; (case ho => rfl); (case hg => rfl); (case hn => rfl); (case hr => first | (go_simp; done) | (go_simp; rfl)); intro w13 hw; have n0_ := bf6 hw NB250_251 BK250; have n1_ := bp6 #[.int .u64 t253, .int .u64 t254, .int .u64 t255, .int .i64 t256, .int .i64 t257, .bool t258] hw BK251; have n2_ : Aside0 (Below w.heap.size w w13) := ⟨(by rw [hw]; exact (uc HB.out))⟩; revert n0_ n1_ n2_; clear hw BK250 BK251 HB; intro BK250 BK251 HB))
  refine bodyPost_ret (results_cell_row rfl _ _ gb251 37 #[.int .u64 t253, .int .u64 t254, .int .u64 t255, .int .i64 t256, .int .i64 t257, .bool t258] (0, 0) _ rfl (ub BK251.out) Try.underlying37 rfl (by kernel_rfl)) rfl ?_
  exact ur (uc HB.out)
 ·rw [if_neg c4] at H
  have c4b0 := decide_eq_false c4
  clear c4
  obtain ⟨c14, H⟩ := ic H
  have c14b0 : decide (0 ≤ t252) = true := decide_eq_true c14
  clear c14
  obtain ⟨c15, H⟩ := ic H
  have c15b0 : decide (t252 < (l0_2.length : Int)) = true := decide_eq_true c15
  clear c15
  replace H := Option.bind_eq_some_iff.mp H
  obtain ⟨t261, A160, H⟩ := H
  replace H : ((image_of.f (IntKind.u64.wrap (a1 + ((rd_T67 l0_2 t252).f0))) ((rd_T67 l0_2 t252).f1) (Go.bits .or .i64 t261 128)).bind fun bt262 => (some (bt262.1, bt262.2.1, bt262.2.2.1, bt262.2.2.2.1, bt262.2.2.2.2.1, bt262.2.2.2.2.2))) = some (r1, r2, r3, r4, r5, r6) := H
  have A16 := am A160
  clear A160
  replace H := Option.bind_eq_some_iff.mp H
  obtain ⟨⟨t262, t263, t264, t265, t266, t267⟩, A170, H⟩ := H
  replace H : (some (t262, t263, t264, t265, t266, t267)) = some (r1, r2, r3, r4, r5, r6) := H
  have A17 := am A170
  clear A170
  simp only [Option.some.injEq, Prod.mk.injEq] at H
  obtain ⟨rfl, rfl, rfl, rfl, rfl, rfl⟩ := H
  go_enter Try.func31, Try.ntmps31
  try go_wp2_with (first | ((with_reducible refine gate_dst (N := 2) rfl ?_); refine box_event ?hg (N := 2) ?hd (cs := #[.string a0_0, .slice A0_1 l0_1.length c0_1, .slice A0_2 l0_2.length c0_2, .slice A0_3 l0_3.length c0_3, .slice A0_4 l0_4.length c0_4, .slice A0_5 l0_5.length c0_5, .slice A0_6 l0_6.length c0_6]) (t := 28) ?hr ?_; (case hd => rfl); (case hg => rfl); (case hr => first | (go_simp; done) | (go_simp; rfl)); intro gb250 hg w18 hbox hb; have n0_ := bs HB hb; have n1_ := am (hbox); have n2_ := nz HB hg; have n3_ := nz HB hg; revert n0_ n1_ n2_ n3_; clear HB; intro HB BK250 GW250 GE250; clear hb hbox hg) | ((with_reducible refine gate_dst (N := 4) rfl ?_); refine box_event ?hg (N := 4) ?hd (cs := #[.int .u64 0, .int .u64 0, .int .u64 0, .int .i64 0, .int .i64 0, .bool false]) (t := 37) ?hr ?_; (case hd => rfl); (case hg => rfl); (case hr => first | (go_simp; done) | (go_simp; rfl)); intro gb251 hg w19 hbox hb; have n0_ := bw BK250 hb; have n1_ := bs HB hb; have n2_ := am (hbox); have n3_ := nz HB hg; have n4_ := nz HB hg; have n5_ := nl BK250 hg; have n6_ := nr BK250 hg; revert n0_ n1_ n2_ n3_ n4_ n5_ n6_; clear BK250 HB; intro BK250 HB BK251 GW251 GE251 NB250_251 NB251_250; clear hb hbox hg; have hnb20 := NB250_251.out; have hnc20 := NB251_250.out; obtain ⟨hcz21_0, hcz21_1, hcz21_2, hcz21_3, hcz21_4, hcz21_5, hcz21_6, hfz21_0, hfz21_1, hfz21_2, hfz21_3, hfz21_4, hfz21_5, hfz21_6⟩ := cells7 BK250.out) | ((with_reducible refine gate_dst (N := 9) rfl ?_); (with_reducible refine gate_callee (f := 47) rfl ?_); refine gl (some 9) Try.func47 #[.slice A0_2 l0_2.length c0_2, .func (.func 55) #[] #[]] ?_; (with_reducible refine (api_Segment.calls _ _ l0_2 t252 _ ?side1 ?side2 A3.out).mono ?_); (case side1 => exact us (Kd.C_below HR0_2.out HB.out)); (case side2 => exact HC0_2.out); rintro e w22 ⟨rfl, hb⟩; refine ⟨_, rfl, ?_⟩; have n0_ := bw BK250 hb; have n1_ := bw BK251 hb; have n2_ := bs HB hb; revert n0_ n1_ n2_; clear BK250 BK251 HB; intro BK250 BK251 HB; (try clear hb); obtain ⟨hcz23_0, hcz23_1, hcz23_2, hcz23_3, hcz23_4, hcz23_5, hcz23_6, hfz23_0, hfz23_1, hfz23_2, hfz23_3, hfz23_4, hfz23_5, hfz23_6⟩ := cells7 BK250.out; have p259 : 0 ≤ (t252 : Int) := ud; have q259 : t252 < (l0_2.length : Int) := ud; obtain ⟨ad259, A259_3, c259_3, e259, hx259_0, hx259_1, hx259_2, hx259_3, hl259_3, hi259_3⟩ := at_T67 HR0_2.out t252 p259 q259; cases e259; replace hx259_0 := bcel HB hx259_0; replace hx259_1 := bcel HB hx259_1; replace hx259_2 := bcel HB hx259_2; replace hx259_3 := bcel HB hx259_3; have HR259_3 := am hi259_3; have HC259_3 := am hl259_3; clear hi259_3 hl259_3; replace p259 := eq_true p259; replace q259 := eq_true q259) | ((with_reducible refine gate_dst (N := 6) rfl ?_); refine box_event ?hg (N := 6) ?hd (cs := #[.int .u64 0, .int .u64 0, .int .i64 0, .slice none 0 0]) (t := 67) ?hr ?_; (case hd => rfl); (case hg => rfl); (case hr => first | (go_simp; done) | (go_simp; rfl)); intro gb260 hg w24 hbox hb; have n0_ := bw BK250 hb; have n1_ := bw BK251 hb; have n2_ := bs HB hb; have n3_ := am (hbox); have n4_ := nz HB hg; have n5_ := nz HB hg; have n6_ := nl BK250 hg; have n7_ := nr BK250 hg; have n8_ := nl BK251 hg; have n9_ := nr BK251 hg; revert n0_ n1_ n2_ n3_ n4_ n5_ n6_ n7_ n8_ n9_; clear BK250 BK251 HB; intro BK250 BK251 HB BK260 GW260 GE260 NB250_260 NB260_250 NB251_260 NB260_251; clear hb hbox hg; have hnb25 := NB260_250.out; have hnc25 := NB250_260.out; have hnb26 := NB260_251.out; have hnc26 := NB251_260.out; obtain ⟨hcz27_0, hcz27_1, hcz27_2, hcz27_3, hfz27_0, hfz27_1, hfz27_2, hfz27_3⟩ := cells4 BK260.out) | ((with_reducible refine gate_store (t := 67) (p := 6) rfl ?_); refine store_event (t := 67) (p := 6) (v := ?vo_w28) (w1 := ((((w24.setCell ⟨gb260, 0, none⟩ (.int .u64 ((rd_T67 l0_2 t252).f0))).setCell ⟨gb260, 1, none⟩ (.int .u64 ((rd_T67 l0_2 t252).f1))).setCell ⟨gb260, 2, none⟩ (.int .i64 ((rd_T67 l0_2 t252).f2))).setCell ⟨gb260, 3, none⟩ (.slice A259_3 ((rd_T67 l0_2 t252).f3).length c259_3))) ?hg ?ho ?hn ?hr ?_; (case ho => rfl); (case hg => rfl); (case hn => rfl); (case hr => first | (go_simp; done) | (go_simp; rfl)); intro w28 hw; have n0_ := bf4 hw NB250_260 BK250; have n1_ := bf4 hw NB251_260 BK251; have n2_ := bp4 #[.int .u64 ((rd_T67 l0_2 t252).f0), .int .u64 ((rd_T67 l0_2 t252).f1), .int .i64 ((rd_T67 l0_2 t252).f2), .slice A259_3 ((rd_T67 l0_2 t252).f3).length c259_3] hw BK260; have n3_ : Aside0 (Below w.heap.size w w28) := ⟨(by rw [hw]; exact (uc HB.out))⟩; revert n0_ n1_ n2_ n3_; clear hw BK250 BK251 BK260 HB; intro BK250 BK251 BK260 HB))
  have n0_ := am (blk_drew BK250.out)
  have n1_ := am (blk_drew BK251.out)
  have n2_ := am (blk_drew BK260.out)
  have n3_ := am (below_drew1 HB.out)
  revert n0_ n1_ n2_ n3_
  clear BK250 BK251 BK260 HB
  intro BK250 BK251 BK260 HB
  refine sr 12 [] (hE4 BK260) (fun hHeld => ?_); refine with_tabW image_Own.tab5 image_Own.bits5 (fun HT_ HW_ => ?_)
  generalize w28.drew = w29 at BK250 BK251 BK260 HB hHeld ⊢
  refine pv 0 19 (bA 12 1) HT_ ?_
  refine pv 1 20 (bA 12 3) HT_ ?_
  refine pv 4 23 (bA 12 19) HT_ ?_
  refine pv 6 25 (bA 12 83) HT_ ?_
  refine tv 2 21 (bA 12 87) HT_ HW_ hHeld ?_ (hy := by rintro w' ⟨s0, s1, s2, s3⟩; go_simp; with_reducible rfl)
  refine pv 3 22 (bA 12 95) HT_ ?_
  refine tv 5 24 (bA 12 127) HT_ HW_ hHeld ?_ (hy := by rintro w' ⟨s0, s1, s2, s3⟩; go_simp; with_reducible rfl)
  refine tv 7 26 (bA 12 255) HT_ HW_ hHeld ?_ (hy := by rintro w' ⟨s0, s1, s2, s3⟩; go_simp; with_reducible rfl)
  refine one_ (i := 8) (N := some 27) (bA 12 511) rfl rfl (one_of HT_.out (by kernel_rfl)) (by decide) (fun K hK => ?_)
  refine goes_ Try.func46 (by kernel_rfl) rfl #[.int .i64 ((rd_T67 l0_2 t252).f2)] (by rfl) rfl rfl (by (try simp only [List.map_toArray, List.map_cons, List.map_nil]); first | done | rfl | (simp only [List.length_drop, List.length_take]; rfl)) ?_
  with_reducible refine (image_Perms.calls k ((rd_T67 l0_2 t252).f2) t261 _ A16.out).mono ?_
  rintro e w' ⟨rfl, ⟨nd, rfl⟩⟩
  refine ⟨_, rfl, ?_⟩
  refine hK.out _ _ ⟨cz BK260 0, cz BK260 1, cz BK260 2, cz BK260 3⟩ (fun hHeld => ?_)
  clear hK K
  refine norm_ (a' := ?_) ?_ ?_
  rotate_left
  ·show Act.put _ (some 27) _ = _
   simp only [Act.put, List.setIfInBounds_toArray, List.set_cons_zero, List.set_cons_succ, i64_w, i32_w]
   rfl
  refine pv 9 28 (bA 12 1023) HT_ ?_
  refine one_ (i := 10) (N := some 29) (bA 12 2047) rfl rfl (one_of HT_.out (by kernel_rfl)) (by decide) (fun K hK => ?_)
  refine goes_ Try.func45 (by kernel_rfl) rfl #[.int .u64 (IntKind.u64.wrap (a1 + ((rd_T67 l0_2 t252).f0))), .int .u64 ((rd_T67 l0_2 t252).f1), .int .i64 (Go.bits .or .i64 t261 128)] (by rfl) rfl rfl (by (try simp only [List.map_toArray, List.map_cons, List.map_nil]); first | done | rfl | (simp only [List.length_drop, List.length_take]; rfl)) ?_
  with_reducible refine (image_of.calls (IntKind.u64.wrap (a1 + ((rd_T67 l0_2 t252).f0))) ((rd_T67 l0_2 t252).f1) (Go.bits .or .i64 t261 128) t262 t263 t264 t265 t266 t267 _ A17.out).mono ?_
  rintro e w30 ⟨rfl, hb⟩
  refine ⟨_, rfl, ?_⟩
  have n0_ := bw BK250 hb
  have n1_ := bw BK251 hb
  have n2_ := bw BK260 hb
  have n3_ := bs HB hb
  revert n0_ n1_ n2_ n3_
  clear BK250 BK251 BK260 HB
  intro BK250 BK251 BK260 HB
  (try clear hb)
  (try clear hb2)
  (try clear hk)
  (try clear hi)
  refine hK.out _ _ ⟨cz BK260 0, cz BK260 1, cz BK260 2, cz BK260 3⟩ (fun hHeld => ?_)
  clear hK K
  refine norm_ (a' := ?_) ?_ ?_
  rotate_left
  ·show Act.put _ (some 29) _ = _
   simp only [Act.put, List.setIfInBounds_toArray, List.set_cons_zero, List.set_cons_succ, i64_w, i32_w]
   rfl
  refine one_ (i := 11) (N := none) (bA 12 4095) rfl rfl (one_of HT_.out (by kernel_rfl)) (by decide) (fun K hK => ?_)
  have hs31 : w30.cell? ⟨gb251, 0, none⟩ = some (.int .u64 0) := cz BK251 0
  have hfs31 := fz BK251 0
  have hns31_0 := NB250_251.out
  have hns31_2 := NB260_251.out
  have hms31_0 := NB251_250.out
  have hms31_2 := NB251_260.out
  have hs32 : w30.cell? ⟨gb251, 1, none⟩ = some (.int .u64 0) := cz BK251 1
  have hfs32 := fz BK251 1
  have hns32_0 := NB250_251.out
  have hns32_2 := NB260_251.out
  have hms32_0 := NB251_250.out
  have hms32_2 := NB251_260.out
  have hs33 : w30.cell? ⟨gb251, 2, none⟩ = some (.int .u64 0) := cz BK251 2
  have hfs33 := fz BK251 2
  have hns33_0 := NB250_251.out
  have hns33_2 := NB260_251.out
  have hms33_0 := NB251_250.out
  have hms33_2 := NB251_260.out
  have hs34 : w30.cell? ⟨gb251, 3, none⟩ = some (.int .i64 0) := cz BK251 3
  have hfs34 := fz BK251 3
  have hns34_0 := NB250_251.out
  have hns34_2 := NB260_251.out
  have hms34_0 := NB251_250.out
  have hms34_2 := NB251_260.out
  have hs35 : w30.cell? ⟨gb251, 4, none⟩ = some (.int .i64 0) := cz BK251 4
  have hfs35 := fz BK251 4
  have hns35_0 := NB250_251.out
  have hns35_2 := NB260_251.out
  have hms35_0 := NB251_250.out
  have hms35_2 := NB251_260.out
  have hs36 : w30.cell? ⟨gb251, 5, none⟩ = some (.bool false) := cz BK251 5
  have hfs36 := fz BK251 5
  have hns36_0 := NB250_251.out
  have hns36_2 := NB260_251.out
  have hms36_0 := NB251_250.out
  have hms36_2 := NB251_260.out
  refine skip_ (w1 := ?_) (by rfl) rfl ?_ ?_
  rotate_left
  ·go_simp
   rfl
  refine hK.out _ _ ⟨((cnf6 (NB260_251.out)).trans (hHeld.1)), ((cnf6 (NB260_251.out)).trans (hHeld.2.1)), ((cnf6 (NB260_251.out)).trans (hHeld.2.2.1)), ((cnf6 (NB260_251.out)).trans (hHeld.2.2.2))⟩ (fun hHeld => ?_)
  clear hK K
  refine done_ (done_of HT_.out (by kernel_rfl)) ?_
  try go_wp2
  refine bodyPost_ret (results_cell_row rfl _ _ gb251 37 #[.int .u64 t262, .int .u64 t263, .int .u64 t264, .int .i64 t265, .int .i64 t266, .bool t267] (0, 0) _ rfl (by (with_reducible repeat (first | refine blk_drewN ?_ _ | refine blk_drew ?_ | refine blk_alloc ?_ _)); refine blk_put (cs := #[.int .u64 t262, .int .u64 t263, .int .u64 t264, .int .i64 t265, .int .i64 t266, .bool false]) ?_ 5 _ rfl; (with_reducible repeat (first | refine blk_drewN ?_ _ | refine blk_drew ?_ | refine blk_alloc ?_ _)); refine blk_put (cs := #[.int .u64 t262, .int .u64 t263, .int .u64 t264, .int .i64 t265, .int .i64 0, .bool false]) ?_ 4 _ rfl; (with_reducible repeat (first | refine blk_drewN ?_ _ | refine blk_drew ?_ | refine blk_alloc ?_ _)); refine blk_put (cs := #[.int .u64 t262, .int .u64 t263, .int .u64 t264, .int .i64 0, .int .i64 0, .bool false]) ?_ 3 _ rfl; (with_reducible repeat (first | refine blk_drewN ?_ _ | refine blk_drew ?_ | refine blk_alloc ?_ _)); refine blk_put (cs := #[.int .u64 t262, .int .u64 t263, .int .u64 0, .int .i64 0, .int .i64 0, .bool false]) ?_ 2 _ rfl; (with_reducible repeat (first | refine blk_drewN ?_ _ | refine blk_drew ?_ | refine blk_alloc ?_ _)); refine blk_put (cs := #[.int .u64 t262, .int .u64 0, .int .u64 0, .int .i64 0, .int .i64 0, .bool false]) ?_ 1 _ rfl; (with_reducible repeat (first | refine blk_drewN ?_ _ | refine blk_drew ?_ | refine blk_alloc ?_ _)); refine blk_put (cs := #[.int .u64 0, .int .u64 0, .int .u64 0, .int .i64 0, .int .i64 0, .bool false]) ?_ 0 _ rfl; (with_reducible repeat (first | refine blk_drewN ?_ _ | refine blk_drew ?_ | refine blk_alloc ?_ _)); exact BK251.out) Try.underlying37 rfl (by kernel_rfl)) rfl ?_
  exact ur (uc HB.out)

end Go.Proofs.Ytlbfeklpncoccaa.P
