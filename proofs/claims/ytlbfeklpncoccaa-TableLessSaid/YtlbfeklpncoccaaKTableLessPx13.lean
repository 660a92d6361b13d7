/- What functions of the program, and of its laws, give, each proved of its code by a walk; no condition. -/
import Derived.Test.YtlbfeklpncoccaaKTableLessPx0
import Derived.Test.YtlbfeklpncoccaaKTableLessSq
import Derived.Test.YtlbfeklpncoccaaKTableLessUsh
import Derived.Test.YtlbfeklpncoccaaKTableLessUs4
namespace Go.Proofs.Ytlbfeklpncoccaa.P
open Go.RowKit Go.Proofs.YtlbfeklpncoccaaW.PrintWords Go.Proofs.YtlbfeklpncoccaaW.PrintLast Go.Proofs.YtlbfeklpncoccaaW.PrintMore
attribute [local go_sem] max2_int min2_int max_two min_two max_three min_three max_four min_four   -- for this text's walks alone
set_option linter.unusedVariables false
set_option linter.unusedSimpArgs false

def curtilageref10_Room.f (a0_0 : ByteArray) (l0_1 : List ByteArray) (l0_2 : List (S67)) (l0_3 : List (S35)) (l0_4 : List (S72)) (l0_5 : List Int) (l0_6 : List Int) (a1 : Int) : Option (Int) := if 0 ≤ a1 then (if a1 < (l0_3.length : Int) then (if ((rd_T35 l0_3 a1).f4) = 1 then (some 64) else (some 32)) else (none)) else (none)
set_option maxHeartbeats 8000000 in
set_option maxRecDepth 100000 in
theorem curtilageref10_Room.calls (a0_0 : ByteArray) (A0_1 : Option Addr) (c0_1 : Nat) (l0_1 : List ByteArray) (A0_2 : Option Addr) (c0_2 : Nat) (l0_2 : List (S67)) (A0_3 : Option Addr) (c0_3 : Nat) (l0_3 : List (S35)) (A0_4 : Option Addr) (c0_4 : Nat) (l0_4 : List (S72)) (A0_5 : Option Addr) (c0_5 : Nat) (l0_5 : List Int) (A0_6 : Option Addr) (c0_6 : Nat) (l0_6 : List Int) (a1 : Int) (r : Int) (w : World) (hr0_1 : Kd.C Kd.string w A0_1 l0_1.length l0_1) (hc0_1 : l0_1.length ≤ c0_1) (hr0_2 : Kd.C k67 w A0_2 l0_2.length l0_2) (hc0_2 : l0_2.length ≤ c0_2) (hr0_3 : Kd.C k35 w A0_3 l0_3.length l0_3) (hc0_3 : l0_3.length ≤ c0_3) (hr0_4 : Kd.C k72 w A0_4 l0_4.length l0_4) (hc0_4 : l0_4.length ≤ c0_4) (hr0_5 : Kd.C (Kd.int .i64) w A0_5 l0_5.length l0_5) (hc0_5 : l0_5.length ≤ c0_5) (hr0_6 : Kd.C (Kd.int .i64) w A0_6 l0_6.length l0_6) (hc0_6 : l0_6.length ≤ c0_6) (h : curtilageref10_Room.f a0_0 l0_1 l0_2 l0_3 l0_4 l0_5 l0_6 a1 = some r) :
  Calls Try.prog 59 #[.agg #[.string a0_0, .slice A0_1 l0_1.length c0_1, .slice A0_2 l0_2.length c0_2, .slice A0_3 l0_3.length c0_3, .slice A0_4 l0_4.length c0_4, .slice A0_5 l0_5.length c0_5, .slice A0_6 l0_6.length c0_6], .int .i64 a1] w fun e w' => e = .returned (.int .u64 r) ∧ Below w.heap.size w w' := by
 have hu28 := Try.underlying28
 have HR0_1 := am hr0_1
 have HC0_1 := am hc0_1
 clear hr0_1 hc0_1
 have HR0_2 := am hr0_2
 have HC0_2 := am hc0_2
 clear hr0_2 hc0_2
 have HR0_3 := am hr0_3
 have HC0_3 := am hc0_3
 clear hr0_3 hc0_3
 have HR0_4 := am hr0_4
 have HC0_4 := am hc0_4
 clear hr0_4 hc0_4
 have HR0_5 := am hr0_5
 have HC0_5 := am hc0_5
 clear hr0_5 hc0_5
 have HR0_6 := am hr0_6
 have HC0_6 := am hc0_6
 clear hr0_6 hc0_6
 have HB := am (Below.refl w.heap.size w)
 have H : (if 0 ≤ a1 then (if a1 < (l0_3.length : Int) then (if ((rd_T35 l0_3 a1).f4) = 1 then (some 64) else (some 32)) else (none)) else (none)) = some r := h
 clear h
 obtain ⟨c3, H⟩ := ic H
 have c3b0 : decide (0 ≤ a1) = true := decide_eq_true c3
 clear c3
 obtain ⟨c4, H⟩ := ic H
 have c4b0 : decide (a1 < (l0_3.length : Int)) = true := decide_eq_true c4
 clear c4
 by_cases c5 : ((rd_T35 l0_3 a1).f4) = 1
 ·rw [if_pos c5] at H
  have c5b0 := beq_iff_eq.mpr c5
  have c5b1 := bne_eq_false_iff_eq.mpr c5
  clear c5
  obtain rfl := Option.some.inj H
  go_enter Try.func59, Try.ntmps59
  go_wp2_with (first | ((with_reducible refine gate_dst (N := 2) rfl ?_); refine box_event ?hg (N := 2) ?hd (cs := #[.string a0_0, .slice A0_1 l0_1.length c0_1, .slice A0_2 l0_2.length c0_2, .slice A0_3 l0_3.length c0_3, .slice A0_4 l0_4.length c0_4, .slice A0_5 l0_5.length c0_5, .slice A0_6 l0_6.length c0_6]) (t := 28) ?hr ?_; (case hd => rfl); (case hg => rfl); (case hr => first | (go_simp; done) | (go_simp; rfl)); intro gb418 hg w6 hbox hb; have n0_ := bs HB hb; have n1_ := am (hbox); have n2_ := nz HB hg; have n3_ := nz HB hg; revert n0_ n1_ n2_ n3_; clear HB; intro HB BK418 GW418 GE418; clear hb hbox hg; obtain ⟨hcz7_0, hcz7_1, hcz7_2, hcz7_3, hcz7_4, hcz7_5, hcz7_6, hfz7_0, hfz7_1, hfz7_2, hfz7_3, hfz7_4, hfz7_5, hfz7_6⟩ := cells7 BK418.out; have p419 : 0 ≤ (a1 : Int) := ud; have q419 : a1 < (l0_3.length : Int) := ud; obtain ⟨ad419, e419, hx419_0, hx419_1, hx419_2, hx419_3, hx419_4, hx419_5, hx419_6, hx419_7⟩ := at_T35 HR0_3.out a1 p419 q419; cases e419; replace hx419_0 := bcel HB hx419_0; replace hx419_1 := bcel HB hx419_1; replace hx419_2 := bcel HB hx419_2; replace hx419_3 := bcel HB hx419_3; replace hx419_4 := bcel HB hx419_4; replace hx419_5 := bcel HB hx419_5; replace hx419_6 := bcel HB hx419_6; replace hx419_7 := bcel HB hx419_7; replace p419 := eq_true p419; replace q419 := eq_true q419))
  go_ret
  exact ur (uc HB.out)
 ·rw [if_neg c5] at H
  have c5b0 := beq_eq_false_iff_ne.mpr c5
  have c5b1 := bne_iff_ne.mpr c5
  obtain rfl := Option.some.inj H
  go_enter Try.func59, Try.ntmps59
  go_wp2_with (first | ((with_reducible refine gate_dst (N := 2) rfl ?_); refine box_event ?hg (N := 2) ?hd (cs := #[.string a0_0, .slice A0_1 l0_1.length c0_1, .slice A0_2 l0_2.length c0_2, .slice A0_3 l0_3.length c0_3, .slice A0_4 l0_4.length c0_4, .slice A0_5 l0_5.length c0_5, .slice A0_6 l0_6.length c0_6]) (t := 28) ?hr ?_; (case hd => rfl); (case hg => rfl); (case hr => first | (go_simp; done) | (go_simp; rfl)); intro gb418 hg w8 hbox hb; have n0_ := bs HB hb; have n1_ := am (hbox); have n2_ := nz HB hg; have n3_ := nz HB hg; revert n0_ n1_ n2_ n3_; clear HB; intro HB BK418 GW418 GE418; clear hb hbox hg; obtain ⟨hcz9_0, hcz9_1, hcz9_2, hcz9_3, hcz9_4, hcz9_5, hcz9_6, hfz9_0, hfz9_1, hfz9_2, hfz9_3, hfz9_4, hfz9_5, hfz9_6⟩ := cells7 BK418.out; have p419 : 0 ≤ (a1 : Int) := ud; have q419 : a1 < (l0_3.length : Int) := ud; obtain ⟨ad419, e419, hx419_0, hx419_1, hx419_2, hx419_3, hx419_4, hx419_5, hx419_6, hx419_7⟩ := at_T35 HR0_3.out a1 p419 q419; cases e419; replace hx419_0 := bcel HB hx419_0; replace hx419_1 := bcel HB hx419_1; replace hx419_2 := bcel HB hx419_2; replace hx419_3 := bcel HB hx419_3; replace hx419_4 := bcel HB hx419_4; replace hx419_5 := bcel HB hx419_5; replace hx419_6 := bcel HB hx419_6; replace hx419_7 := bcel HB hx419_7; replace p419 := eq_true p419; replace q419 := eq_true q419))
  go_ret
  exact ur (uc HB.out)

end Go.Proofs.Ytlbfeklpncoccaa.P
