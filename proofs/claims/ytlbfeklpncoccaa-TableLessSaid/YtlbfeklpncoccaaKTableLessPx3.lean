/- What functions of the program, and of its laws, give, each proved of its code by a walk; no condition. -/
import Derived.Test.YtlbfeklpncoccaaKTableLessPx0
import Derived.Test.YtlbfeklpncoccaaKTableLessPx2
import Derived.Test.YtlbfeklpncoccaaKTableLessSq
import Derived.Test.YtlbfeklpncoccaaKTableLessUsh
import Derived.Test.YtlbfeklpncoccaaKTableLessUs4
namespace Go.Proofs.Ytlbfeklpncoccaa.P
open Go.RowKit Go.Proofs.YtlbfeklpncoccaaW.PrintWords Go.Proofs.YtlbfeklpncoccaaW.PrintLast Go.Proofs.YtlbfeklpncoccaaW.PrintMore
attribute [local go_sem] max2_int min2_int max_two min_two max_three min_three max_four min_four   -- for this text's walks alone
set_option linter.unusedVariables false
set_option linter.unusedSimpArgs false

def cap_Root.f (a0 : Int) : Option (Int × Int × Int × Int × Int × Bool) := some (0, a0, 0, 255, (-1), true)
set_option maxHeartbeats 8000000 in
set_option maxRecDepth 100000 in
theorem cap_Root.calls (a0 : Int) (r1 : Int) (r2 : Int) (r3 : Int) (r4 : Int) (r5 : Int) (r6 : Bool) (w : World) (h : cap_Root.f a0 = some (r1, r2, r3, r4, r5, r6)) :
  Calls Try.prog 54 #[.int .u64 a0] w fun e w' => e = .returned (.agg #[.int .u64 r1, .int .u64 r2, .int .u64 r3, .int .i64 r4, .int .i64 r5, .bool r6]) ∧ Below w.heap.size w w' := by
 have hu37 := Try.underlying37
 have HB := am (Below.refl w.heap.size w)
 have H : (some (0, a0, 0, 255, (-1), true)) = some (r1, r2, r3, r4, r5, r6) := h
 clear h
 simp only [Option.some.injEq, Prod.mk.injEq] at H
 obtain ⟨rfl, rfl, rfl, rfl, rfl, rfl⟩ := H
 go_enter Try.func54, Try.ntmps54
 go_wp2_with (first | ((with_reducible refine gate_dst (N := 2) rfl ?_); refine box_event ?hg (N := 2) ?hd (cs := #[.int .u64 0, .int .u64 0, .int .u64 0, .int .i64 0, .int .i64 0, .bool false]) (t := 37) ?hr ?_; (case hd => rfl); (case hg => rfl); (case hr => first | (go_simp; done) | (go_simp; rfl)); intro gb143 hg w2 hbox hb; have n0_ := bs HB hb; have n1_ := am (hbox); have n2_ := nz HB hg; have n3_ := nz HB hg; revert n0_ n1_ n2_ n3_; clear HB; intro HB BK143 GW143 GE143; clear hb hbox hg; obtain ⟨hcz3_0, hcz3_1, hcz3_2, hcz3_3, hcz3_4, hcz3_5, hfz3_0, hfz3_1, hfz3_2, hfz3_3, hfz3_4, hfz3_5⟩ := cells6 BK143.out) | ((with_reducible refine gate_store (t := 37) (p := 2) rfl ?_); refine store_event (t := 37) (p := 2) (v := ?vo_w4) (w1 := ((((((w2.setCell ⟨gb143, 0, none⟩ (.int .u64 0)).setCell ⟨gb143, 1, none⟩ (.int .u64 a0)).setCell ⟨gb143, 2, none⟩ (.int .u64 0)).setCell ⟨gb143, 3, none⟩ (.int .i64 255)).setCell ⟨gb143, 4, none⟩ (.int .i64 (-1))).setCell ⟨gb143, 5, none⟩ (.bool true))) ?hg ?ho ?hn ?hr ?_; (case ho => rfl); (case hg => rfl); (case hn => rfl); (case hr => first | (go_simp; done) | (go_simp; rfl)); intro w4 hw; have n0_ := bp6 #[.int .u64 0, .int .u64 a0, .int .u64 0, .int .i64 255, .int .i64 (-1), .bool true] hw BK143; have n1_ : Aside0 (Below w.heap.size w w4) := ⟨(by rw [hw]; exact (uc HB.out))⟩; revert n0_ n1_; clear hw BK143 HB; intro BK143 HB))
 refine bodyPost_ret (results_cell_row rfl _ _ gb143 37 #[.int .u64 0, .int .u64 a0, .int .u64 0, .int .i64 255, .int .i64 (-1), .bool true] (0, 0) _ rfl (ub BK143.out) Try.underlying37 rfl (by kernel_rfl)) rfl ?_
 exact ur (uc HB.out)

def cap_And.f (a0_0 : Int) (a0_1 : Int) (a0_2 : Int) (a0_3 : Int) (a0_4 : Int) (a0_5 : Bool) (a1 : Int) : Option (Int × Int × Int × Int × Int × Bool) := (cap_open.f a0_0 a0_1 a0_2 (Go.bits .and .i64 a0_3 a1) a0_4 a0_5).bind fun bt146 => (some (bt146.1, bt146.2.1, bt146.2.2.1, bt146.2.2.2.1, bt146.2.2.2.2.1, bt146.2.2.2.2.2))
set_option maxHeartbeats 8000000 in
set_option maxRecDepth 100000 in
theorem cap_And.calls (a0_0 : Int) (a0_1 : Int) (a0_2 : Int) (a0_3 : Int) (a0_4 : Int) (a0_5 : Bool) (a1 : Int) (r1 : Int) (r2 : Int) (r3 : Int) (r4 : Int) (r5 : Int) (r6 : Bool) (w : World) (h : cap_And.f a0_0 a0_1 a0_2 a0_3 a0_4 a0_5 a1 = some (r1, r2, r3, r4, r5, r6)) :
  Calls Try.prog 60 #[.agg #[.int .u64 a0_0, .int .u64 a0_1, .int .u64 a0_2, .int .i64 a0_3, .int .i64 a0_4, .bool a0_5], .int .i64 a1] w fun e w' => e = .returned (.agg #[.int .u64 r1, .int .u64 r2, .int .u64 r3, .int .i64 r4, .int .i64 r5, .bool r6]) ∧ Below w.heap.size w w' := by
 have hu37 := Try.underlying37
 have HB := am (Below.refl w.heap.size w)
 have H : ((cap_open.f a0_0 a0_1 a0_2 (Go.bits .and .i64 a0_3 a1) a0_4 a0_5).bind fun bt146 => (some (bt146.1, bt146.2.1, bt146.2.2.1, bt146.2.2.2.1, bt146.2.2.2.2.1, bt146.2.2.2.2.2))) = some (r1, r2, r3, r4, r5, r6) := h
 clear h
 replace H := Option.bind_eq_some_iff.mp H
 obtain ⟨⟨t146, t147, t148, t149, t150, t151⟩, A30, H⟩ := H
 replace H : (some (t146, t147, t148, t149, t150, t151)) = some (r1, r2, r3, r4, r5, r6) := H
 have A3 := am A30
 clear A30
 simp only [Option.some.injEq, Prod.mk.injEq] at H
 obtain ⟨rfl, rfl, rfl, rfl, rfl, rfl⟩ := H
 go_enter Try.func60, Try.ntmps60
 go_wp2_with (first | ((with_reducible refine gate_dst (N := 2) rfl ?_); refine box_event ?hg (N := 2) ?hd (cs := #[.int .u64 a0_0, .int .u64 a0_1, .int .u64 a0_2, .int .i64 a0_3, .int .i64 a0_4, .bool a0_5]) (t := 37) ?hr ?_; (case hd => rfl); (case hg => rfl); (case hr => first | (go_simp; done) | (go_simp; rfl)); intro gb144 hg w4 hbox hb; have n0_ := bs HB hb; have n1_ := am (hbox); have n2_ := nz HB hg; have n3_ := nz HB hg; revert n0_ n1_ n2_ n3_; clear HB; intro HB BK144 GW144 GE144; clear hb hbox hg) | ((with_reducible refine gate_dst (N := 4) rfl ?_); refine box_event ?hg (N := 4) ?hd (cs := #[.int .u64 0, .int .u64 0, .int .u64 0, .int .i64 0, .int .i64 0, .bool false]) (t := 37) ?hr ?_; (case hd => rfl); (case hg => rfl); (case hr => first | (go_simp; done) | (go_simp; rfl)); intro gb145 hg w5 hbox hb; have n0_ := bw BK144 hb; have n1_ := bs HB hb; have n2_ := am (hbox); have n3_ := nz HB hg; have n4_ := nz HB hg; have n5_ := nl BK144 hg; have n6_ := nr BK144 hg; revert n0_ n1_ n2_ n3_ n4_ n5_ n6_; clear BK144 HB; intro BK144 HB BK145 GW145 GE145 NB144_145 NB145_144; clear hb hbox hg; have hnb6 := NB144_145.out; have hnc6 := NB145_144.out; obtain ⟨hcz7_0, hcz7_1, hcz7_2, hcz7_3, hcz7_4, hcz7_5, hfz7_0, hfz7_1, hfz7_2, hfz7_3, hfz7_4, hfz7_5⟩ := cells6 BK144.out) | ((with_reducible refine gate_dst (N := 11) rfl ?_); (with_reducible refine gate_callee (f := 49) rfl ?_); refine gl (some 11) Try.func49 #[.agg #[.int .u64 a0_0, .int .u64 a0_1, .int .u64 a0_2, .int .i64 (Go.bits .and .i64 a0_3 a1), .int .i64 a0_4, .bool a0_5]] ?_; (with_reducible refine (cap_open.calls a0_0 a0_1 a0_2 (Go.bits .and .i64 a0_3 a1) a0_4 a0_5 t146 t147 t148 t149 t150 t151 _ A3.out).mono ?_); rintro e w8 ⟨rfl, hb⟩; refine ⟨_, rfl, ?_⟩; have n0_ := am (blk_below (g := gb144) (o := .cells #[.int .u64 a0_0, .int .u64 a0_1, .int .u64 a0_2, .int .i64 (Go.bits .and .i64 a0_3 a1), .int .i64 a0_4, .bool a0_5] 37 (0, 0)) (by (with_reducible repeat (first | refine blk_drewN ?_ _ | refine blk_drew ?_ | refine blk_alloc ?_ _)); refine blk_put (cs := #[.int .u64 a0_0, .int .u64 a0_1, .int .u64 a0_2, .int .i64 a0_3, .int .i64 a0_4, .bool a0_5]) ?_ 3 _ rfl; (with_reducible repeat (first | refine blk_drewN ?_ _ | refine blk_drew ?_ | refine blk_alloc ?_ _)); exact BK144.out) hb); have n1_ := am (blk_below (g := gb145) (o := .cells #[.int .u64 0, .int .u64 0, .int .u64 0, .int .i64 0, .int .i64 0, .bool false] 37 (0, 0)) (by (with_reducible repeat (first | refine blk_drewN ?_ _ | refine blk_drew ?_ | refine blk_alloc ?_ _)); refine blk_far ?_ NB145_144.out _; (with_reducible repeat (first | refine blk_drewN ?_ _ | refine blk_drew ?_ | refine blk_alloc ?_ _)); exact BK145.out) hb); have n2_ := bs HB hb; revert n0_ n1_ n2_; clear BK144 BK145 HB; intro BK144 BK145 HB; (try clear hb); obtain ⟨hcz9_0, hcz9_1, hcz9_2, hcz9_3, hcz9_4, hcz9_5, hfz9_0, hfz9_1, hfz9_2, hfz9_3, hfz9_4, hfz9_5⟩ := cells6 BK145.out) | ((with_reducible refine gate_store (t := 37) (p := 4) rfl ?_); refine store_event (t := 37) (p := 4) (v := ?vo_w10) (w1 := ((((((w8.setCell ⟨gb145, 0, none⟩ (.int .u64 t146)).setCell ⟨gb145, 1, none⟩ (.int .u64 t147)).setCell ⟨gb145, 2, none⟩ (.int .u64 t148)).setCell ⟨gb145, 3, none⟩ (.int .i64 t149)).setCell ⟨gb145, 4, none⟩ (.int .i64 t150)).setCell ⟨gb145, 5, none⟩ (.bool t151))) ?hg ?ho ?hn ?hr ?_; (case ho => rfl); (case hg => rfl); (case hn => rfl); (case hr => first | (go_simp; done) | (go_simp; rfl)); intro w10 hw; have n0_ := bf6 hw NB144_145 BK144; have n1_ := bp6 #[.int .u64 t146, .int .u64 t147, .int .u64 t148, .int .i64 t149, .int .i64 t150, .bool t151] hw BK145; have n2_ : Aside0 (Below w.heap.size w w10) := ⟨(by rw [hw]; exact (uc HB.out))⟩; revert n0_ n1_ n2_; clear hw BK144 BK145 HB; intro BK144 BK145 HB))
 refine bodyPost_ret (results_cell_row rfl _ _ gb145 37 #[.int .u64 t146, .int .u64 t147, .int .u64 t148, .int .i64 t149, .int .i64 t150, .bool t151] (0, 0) _ rfl (ub BK145.out) Try.underlying37 rfl (by kernel_rfl)) rfl ?_
 exact ur (uc HB.out)

def image_of.f (a0 : Int) (a1 : Int) (a2 : Int) : Option (Int × Int × Int × Int × Int × Bool) := (cap_Root.f 33554432).bind fun bt153 => ((cap_Move.f bt153.1 bt153.2.1 bt153.2.2.1 bt153.2.2.2.1 bt153.2.2.2.2.1 bt153.2.2.2.2.2 a0).bind fun bt159 => ((cap_Bound.f bt159.1 bt159.2.1 bt159.2.2.1 bt159.2.2.2.1 bt159.2.2.2.2.1 bt159.2.2.2.2.2 a1).bind fun bt165 => ((cap_And.f bt165.1 bt165.2.1 bt165.2.2.1 bt165.2.2.2.1 bt165.2.2.2.2.1 bt165.2.2.2.2.2 a2).bind fun bt171 => (some (bt171.1, bt171.2.1, bt171.2.2.1, bt171.2.2.2.1, bt171.2.2.2.2.1, bt171.2.2.2.2.2)))))
set_option maxHeartbeats 8000000 in
set_option maxRecDepth 100000 in
theorem image_of.calls (a0 : Int) (a1 : Int) (a2 : Int) (r1 : Int) (r2 : Int) (r3 : Int) (r4 : Int) (r5 : Int) (r6 : Bool) (w : World) (h : image_of.f a0 a1 a2 = some (r1, r2, r3, r4, r5, r6)) :
  Calls Try.prog 45 #[.int .u64 a0, .int .u64 a1, .int .i64 a2] w fun e w' => e = .returned (.agg #[.int .u64 r1, .int .u64 r2, .int .u64 r3, .int .i64 r4, .int .i64 r5, .bool r6]) ∧ Below w.heap.size w w' := by
 have hu37 := Try.underlying37
 have HB := am (Below.refl w.heap.size w)
 have H : ((cap_Root.f 33554432).bind fun bt153 => ((cap_Move.f bt153.1 bt153.2.1 bt153.2.2.1 bt153.2.2.2.1 bt153.2.2.2.2.1 bt153.2.2.2.2.2 a0).bind fun bt159 => ((cap_Bound.f bt159.1 bt159.2.1 bt159.2.2.1 bt159.2.2.2.1 bt159.2.2.2.2.1 bt159.2.2.2.2.2 a1).bind fun bt165 => ((cap_And.f bt165.1 bt165.2.1 bt165.2.2.1 bt165.2.2.2.1 bt165.2.2.2.2.1 bt165.2.2.2.2.2 a2).bind fun bt171 => (some (bt171.1, bt171.2.1, bt171.2.2.1, bt171.2.2.2.1, bt171.2.2.2.2.1, bt171.2.2.2.2.2)))))) = some (r1, r2, r3, r4, r5, r6) := h
 clear h
 replace H := Option.bind_eq_some_iff.mp H
 obtain ⟨⟨t153, t154, t155, t156, t157, t158⟩, A40, H⟩ := H
 replace H : ((cap_Move.f t153 t154 t155 t156 t157 t158 a0).bind fun bt159 => ((cap_Bound.f bt159.1 bt159.2.1 bt159.2.2.1 bt159.2.2.2.1 bt159.2.2.2.2.1 bt159.2.2.2.2.2 a1).bind fun bt165 => ((cap_And.f bt165.1 bt165.2.1 bt165.2.2.1 bt165.2.2.2.1 bt165.2.2.2.2.1 bt165.2.2.2.2.2 a2).bind fun bt171 => (some (bt171.1, bt171.2.1, bt171.2.2.1, bt171.2.2.2.1, bt171.2.2.2.2.1, bt171.2.2.2.2.2))))) = some (r1, r2, r3, r4, r5, r6) := H
 have A4 := am A40
 clear A40
 replace H := Option.bind_eq_some_iff.mp H
 obtain ⟨⟨t159, t160, t161, t162, t163, t164⟩, A50, H⟩ := H
 replace H : ((cap_Bound.f t159 t160 t161 t162 t163 t164 a1).bind fun bt165 => ((cap_And.f bt165.1 bt165.2.1 bt165.2.2.1 bt165.2.2.2.1 bt165.2.2.2.2.1 bt165.2.2.2.2.2 a2).bind fun bt171 => (some (bt171.1, bt171.2.1, bt171.2.2.1, bt171.2.2.2.1, bt171.2.2.2.2.1, bt171.2.2.2.2.2)))) = some (r1, r2, r3, r4, r5, r6) := H
 have A5 := am A50
 clear A50
 replace H := Option.bind_eq_some_iff.mp H
 obtain ⟨⟨t165, t166, t167, t168, t169, t170⟩, A60, H⟩ := H
 replace H : ((cap_And.f t165 t166 t167 t168 t169 t170 a2).bind fun bt171 => (some (bt171.1, bt171.2.1, bt171.2.2.1, bt171.2.2.2.1, bt171.2.2.2.2.1, bt171.2.2.2.2.2))) = some (r1, r2, r3, r4, r5, r6) := H
 have A6 := am A60
 clear A60
 replace H := Option.bind_eq_some_iff.mp H
 obtain ⟨⟨t171, t172, t173, t174, t175, t176⟩, A70, H⟩ := H
 replace H : (some (t171, t172, t173, t174, t175, t176)) = some (r1, r2, r3, r4, r5, r6) := H
 have A7 := am A70
 clear A70
 simp only [Option.some.injEq, Prod.mk.injEq] at H
 obtain ⟨rfl, rfl, rfl, rfl, rfl, rfl⟩ := H
 go_enter Try.func45, Try.ntmps45
 go_wp2_with (first | ((with_reducible refine gate_dst (N := 6) rfl ?_); refine box_event ?hg (N := 6) ?hd (cs := #[.int .u64 0, .int .u64 0, .int .u64 0, .int .i64 0, .int .i64 0, .bool false]) (t := 37) ?hr ?_; (case hd => rfl); (case hg => rfl); (case hr => first | (go_simp; done) | (go_simp; rfl)); intro gb152 hg w8 hbox hb; have n0_ := bs HB hb; have n1_ := am (hbox); have n2_ := nz HB hg; have n3_ := nz HB hg; revert n0_ n1_ n2_ n3_; clear HB; intro HB BK152 GW152 GE152; clear hb hbox hg) | ((with_reducible refine gate_dst (N := 7) rfl ?_); (with_reducible refine gate_callee (f := 54) rfl ?_); refine gl (some 7) Try.func54 #[.int .u64 33554432] ?_; (with_reducible refine (cap_Root.calls 33554432 t153 t154 t155 t156 t157 t158 _ A4.out).mono ?_); rintro e w9 ⟨rfl, hb⟩; refine ⟨_, rfl, ?_⟩; have n0_ := bw BK152 hb; have n1_ := bs HB hb; revert n0_ n1_; clear BK152 HB; intro BK152 HB; (try clear hb)) | ((with_reducible refine gate_dst (N := 9) rfl ?_); (with_reducible refine gate_callee (f := 26) rfl ?_); refine gl (some 9) Try.func26 #[.agg #[.int .u64 t153, .int .u64 t154, .int .u64 t155, .int .i64 t156, .int .i64 t157, .bool t158], .int .u64 a0] ?_; (with_reducible refine (cap_Move.calls t153 t154 t155 t156 t157 t158 a0 t159 t160 t161 t162 t163 t164 _ A5.out).mono ?_); rintro e w10 ⟨rfl, hb⟩; refine ⟨_, rfl, ?_⟩; have n0_ := bw BK152 hb; have n1_ := bs HB hb; revert n0_ n1_; clear BK152 HB; intro BK152 HB; (try clear hb)) | ((with_reducible refine gate_dst (N := 11) rfl ?_); (with_reducible refine gate_callee (f := 25) rfl ?_); refine gl (some 11) Try.func25 #[.agg #[.int .u64 t159, .int .u64 t160, .int .u64 t161, .int .i64 t162, .int .i64 t163, .bool t164], .int .u64 a1] ?_; (with_reducible refine (cap_Bound.calls t159 t160 t161 t162 t163 t164 a1 t165 t166 t167 t168 t169 t170 _ A6.out).mono ?_); rintro e w11 ⟨rfl, hb⟩; refine ⟨_, rfl, ?_⟩; have n0_ := bw BK152 hb; have n1_ := bs HB hb; revert n0_ n1_; clear BK152 HB; intro BK152 HB; (try clear hb)) | ((with_reducible refine gate_dst (N := 13) rfl ?_); (with_reducible refine gate_callee (f := 60) rfl ?_); refine gl (some 13) Try.func60 #[.agg #[.int .u64 t165, .int .u64 t166, .int .u64 t167, .int .i64 t168, .int .i64 t169, .bool t170], .int .i64 a2] ?_; (with_reducible refine (cap_And.calls t165 t166 t167 t168 t169 t170 a2 t171 t172 t173 t174 t175 t176 _ A7.out).mono ?_); rintro e w12 ⟨rfl, hb⟩; refine ⟨_, rfl, ?_⟩; have n0_ := bw BK152 hb; have n1_ := bs HB hb; revert n0_ n1_; clear BK152 HB; intro BK152 HB; (try clear hb); obtain ⟨hcz13_0, hcz13_1, hcz13_2, hcz13_3, hcz13_4, hcz13_5, hfz13_0, hfz13_1, hfz13_2, hfz13_3, hfz13_4, hfz13_5⟩ := cells6 BK152.out) | ((with_reducible refine gate_store (t := 37) (p := 6) rfl ?_); refine store_event (t := 37) (p := 6) (v := ?vo_w14) (w1 := ((((((w12.setCell ⟨gb152, 0, none⟩ (.int .u64 t171)).setCell ⟨gb152, 1, none⟩ (.int .u64 t172)).setCell ⟨gb152, 2, none⟩ (.int .u64 t173)).setCell ⟨gb152, 3, none⟩ (.int .i64 t174)).setCell ⟨gb152, 4, none⟩ (.int .i64 t175)).setCell ⟨gb152, 5, none⟩ (.bool t176))) ?hg ?ho ?hn ?hr ?_; (case ho => rfl); (case hg => rfl); (case hn => rfl); (case hr => first | (go_simp; done) | (go_simp; rfl)); intro w14 hw; have n0_ := bp6 #[.int .u64 t171, .int .u64 t172, .int .u64 t173, .int .i64 t174, .int .i64 t175, .bool t176] hw BK152; have n1_ : Aside0 (Below w.heap.size w w14) := ⟨(by rw [hw]; exact (uc HB.out))⟩; revert n0_ n1_; clear hw BK152 HB; intro BK152 HB))
 refine bodyPost_ret (results_cell_row rfl _ _ gb152 37 #[.int .u64 t171, .int .u64 t172, .int .u64 t173, .int .i64 t174, .int .i64 t175, .bool t176] (0, 0) _ rfl (ub BK152.out) Try.underlying37 rfl (by kernel_rfl)) rfl ?_
 exact ur (uc HB.out)

def image_Perms.j0 : Nat → Int → Int → Option (Int)
  | 0, _, _ => none
  | k + 1, x0, x3 => if (Go.bits .and .i64 x0 2) = 0 then (if (Go.bits .and .i64 x0 4) = 0 then (some x3) else (some (Go.bits .or .i64 x3 4))) else (if (Go.bits .and .i64 x0 4) = 0 then (some (Go.bits .or .i64 x3 18)) else (some (Go.bits .or .i64 (Go.bits .or .i64 x3 18) 4)))
def image_Perms.f (k : Nat) (a0 : Int) : Option (Int) := if (Go.bits .and .i64 a0 1) = 0 then (image_Perms.j0 k a0 0) else (image_Perms.j0 k a0 (Go.bits .or .i64 0 9))
theorem image_Perms.mono_l : ∀ k, (∀ y0 y1, LeO (image_Perms.j0 k y0 y1) (image_Perms.j0 (k + 1) y0 y1))
  | 0 => fun _ _ r h => by simp [image_Perms.j0] at h
  | k + 1 => by
    have ih0 := image_Perms.mono_l k
    · intro y0 y1
      unfold image_Perms.j0
      repeat' first
      | (with_reducible exact ih0 _ _)
      | (with_reducible exact LeO.refl _)
      | (with_reducible exact LeO.none _)
      | (with_reducible refine LeO.ite ?_ ?_)
      | (with_reducible refine LeO.bind ?_ (fun _ => ?_))
      | exact ih0 _ _
      | exact LeO.none _
      | refine LeO.ite ?_ ?_
      | refine LeO.bind ?_ (fun _ => ?_)
theorem image_Perms.mono : ∀ a0 k, LeO (image_Perms.f k a0) (image_Perms.f (k + 1) a0) := by
  intro a0 k
  have ih0 := image_Perms.mono_l k
  unfold image_Perms.f
  repeat' first
      | (with_reducible exact ih0 _ _)
      | (with_reducible exact LeO.refl _)
      | (with_reducible exact LeO.none _)
      | (with_reducible refine LeO.ite ?_ ?_)
      | (with_reducible refine LeO.bind ?_ (fun _ => ?_))
      | exact ih0 _ _
      | exact LeO.none _
      | refine LeO.ite ?_ ?_
      | refine LeO.bind ?_ (fun _ => ?_)
set_option maxHeartbeats 8000000 in
set_option maxRecDepth 100000 in
theorem image_Perms.calls (k : Nat) (a0 : Int) (r : Int) (w : World) (h : image_Perms.f k a0 = some r) :
  Calls Try.prog 46 #[.int .i64 a0] w fun e w' => e = .returned (.int .i64 r) ∧ Drawn0 w w' := by
 have H : (if (Go.bits .and .i64 a0 1) = 0 then (image_Perms.j0 k a0 0) else (image_Perms.j0 k a0 (Go.bits .or .i64 0 9))) = some r := h
 clear h
 have HC2 := am H
 clear H
 go_enter Try.func46, Try.ntmps46
 go_upto_if 6 with (fail)
 go_cut [3] (fun v3 wc => ∃ (kq : Nat) (x3_1 : Int), v3 = .int .i64 x3_1 ∧ Aside0 (image_Perms.j0 kq a0 x3_1 = some r) ∧ Aside0 (kq ≤ k) ∧ Drawn0 w wc)
 case first =>
  have H := HC2.out
  clear HC2
  by_cases c3 : (Go.bits .and .i64 a0 1) = 0
  ·rw [if_pos c3] at H
   have c3b0 := beq_iff_eq.mpr c3
   have c3b1 := bne_eq_false_iff_eq.mpr c3
   clear c3
   (first | rw [c3b0] | (simp only [i64_w, i32_w]; rw [c3b0]) | skip)
   have H' := am H
   clear H
   go_wp2
   go_meet
   case rel => exact ⟨_, (0), uf, H', ⟨by first | omega | exact Nat.le_refl _⟩, by repeat (first | exact Drawn0.refl _ | apply Drawn0.step)⟩
  ·rw [if_neg c3] at H
   have c3b0 := beq_eq_false_iff_ne.mpr c3
   have c3b1 := bne_iff_ne.mpr c3
   (first | rw [c3b0] | (simp only [i64_w, i32_w]; rw [c3b0]) | skip)
   have H' := am H
   clear H
   go_wp2
   go_meet
   case rel => exact ⟨_, (Go.bits .or .i64 0 9), uf, H', ⟨by first | omega | exact Nat.le_refl _⟩, by repeat (first | exact Drawn0.refl _ | apply Drawn0.step)⟩
 case rest =>
  clear HC2
  obtain ⟨kq, x3_1, rfl, HA, HJ1, ⟨mc1, rfl⟩⟩ := hcut
  cases kq with
  | zero => exact absurd HA.out (by simp [image_Perms.j0])
  | succ kj1 =>
   have H := HA.out
   clear HA
   simp only [image_Perms.j0] at H
   by_cases c4 : (Go.bits .and .i64 a0 2) = 0
   ·rw [if_pos c4] at H
    have c4b0 := beq_iff_eq.mpr c4
    have c4b1 := bne_eq_false_iff_eq.mpr c4
    clear c4
    by_cases c5 : (Go.bits .and .i64 a0 4) = 0
    ·rw [if_pos c5] at H
     have c5b0 := beq_iff_eq.mpr c5
     have c5b1 := bne_eq_false_iff_eq.mpr c5
     clear c5
     obtain rfl := Option.some.inj H
     go_wp2
     go_ret
     exact ⟨by first | rfl | (simp; done) | (simp [*]; done), by repeat (first | exact Drawn0.refl _ | apply Drawn0.step)⟩
    ·rw [if_neg c5] at H
     have c5b0 := beq_eq_false_iff_ne.mpr c5
     have c5b1 := bne_iff_ne.mpr c5
     obtain rfl := Option.some.inj H
     go_wp2
     go_ret
     exact ⟨by first | rfl | (simp; done) | (simp [*]; done), by repeat (first | exact Drawn0.refl _ | apply Drawn0.step)⟩
   ·rw [if_neg c4] at H
    have c4b0 := beq_eq_false_iff_ne.mpr c4
    have c4b1 := bne_iff_ne.mpr c4
    by_cases c6 : (Go.bits .and .i64 a0 4) = 0
    ·rw [if_pos c6] at H
     have c6b0 := beq_iff_eq.mpr c6
     have c6b1 := bne_eq_false_iff_eq.mpr c6
     clear c6
     obtain rfl := Option.some.inj H
     go_wp2
     go_ret
     exact ⟨by first | rfl | (simp; done) | (simp [*]; done), by repeat (first | exact Drawn0.refl _ | apply Drawn0.step)⟩
    ·rw [if_neg c6] at H
     have c6b0 := beq_eq_false_iff_ne.mpr c6
     have c6b1 := bne_iff_ne.mpr c6
     obtain rfl := Option.some.inj H
     go_wp2
     go_ret
     exact ⟨by first | rfl | (simp; done) | (simp [*]; done), by repeat (first | exact Drawn0.refl _ | apply Drawn0.step)⟩

def image_Part.f (k : Nat) (a0_0 : ByteArray) (l0_1 : List ByteArray) (l0_2 : List (S67)) (l0_3 : List (S35)) (l0_4 : List (S72)) (l0_5 : List Int) (l0_6 : List Int) (a1 : Int) (a2 : Int) : Option (Int × Int × Int × Int × Int × Bool) := if 0 ≤ a2 then (if a2 < (l0_2.length : Int) then ((image_Perms.f k ((rd_T67 l0_2 a2).f2)).bind fun t181 => ((image_of.f (IntKind.u64.wrap (a1 + ((rd_T67 l0_2 a2).f0))) ((rd_T67 l0_2 a2).f1) t181).bind fun bt182 => (some (bt182.1, bt182.2.1, bt182.2.2.1, bt182.2.2.2.1, bt182.2.2.2.2.1, bt182.2.2.2.2.2)))) else (none)) else (none)
theorem image_Part.mono : ∀ a0 a1 a2 a3 a4 a5 a6 a7 a8 k, LeO (image_Part.f k a0 a1 a2 a3 a4 a5 a6 a7 a8) (image_Part.f (k + 1) a0 a1 a2 a3 a4 a5 a6 a7 a8) := by
  intro a0 a1 a2 a3 a4 a5 a6 a7 a8 k
  unfold image_Part.f
  repeat' first
      | (with_reducible exact image_Perms.mono _ _)
      | (with_reducible exact LeO.refl _)
      | (with_reducible exact LeO.none _)
      | (with_reducible refine LeO.ite ?_ ?_)
      | (with_reducible refine LeO.bind ?_ (fun _ => ?_))
      | exact image_Perms.mono _ _
      | exact LeO.none _
      | refine LeO.ite ?_ ?_
      | refine LeO.bind ?_ (fun _ => ?_)
def image_Part.T2 : Bool × List (List Nat × List Nat) := (true, [([], []), ([], []), ([1], [1]), ([0, 2], [0, 2]), ([], []), ([4], [4]), ([], []), ([6], [6]), ([7], [7]), ([3, 5, 8, 8], [3, 5, 8]), ([9, 9, 0, 1, 2, 3, 4, 5, 6, 7, 8, 9], [9])])
def image_Part.B2 : List Nat := [0, 0, 2, 7, 0, 16, 0, 64, 192, 511, 1023]
theorem image_Part.tab2 : rtab .any (opsOf Try.f23 2) = image_Part.T2 := by kernel_rfl
theorem image_Part.bits2 : waitsOk image_Part.T2.2 image_Part.B2 = true := by kernel_rfl
set_option maxHeartbeats 8000000 in
set_option maxRecDepth 100000 in
theorem image_Part.calls (k : Nat) (a0_0 : ByteArray) (A0_1 : Option Addr) (c0_1 : Nat) (l0_1 : List ByteArray) (A0_2 : Option Addr) (c0_2 : Nat) (l0_2 : List (S67)) (A0_3 : Option Addr) (c0_3 : Nat) (l0_3 : List (S35)) (A0_4 : Option Addr) (c0_4 : Nat) (l0_4 : List (S72)) (A0_5 : Option Addr) (c0_5 : Nat) (l0_5 : List Int) (A0_6 : Option Addr) (c0_6 : Nat) (l0_6 : List Int) (a1 : Int) (a2 : Int) (r1 : Int) (r2 : Int) (r3 : Int) (r4 : Int) (r5 : Int) (r6 : Bool) (w : World) (hr0_1 : Kd.C Kd.string w A0_1 l0_1.length l0_1) (hc0_1 : l0_1.length ≤ c0_1) (hr0_2 : Kd.C k67 w A0_2 l0_2.length l0_2) (hc0_2 : l0_2.length ≤ c0_2) (hr0_3 : Kd.C k35 w A0_3 l0_3.length l0_3) (hc0_3 : l0_3.length ≤ c0_3) (hr0_4 : Kd.C k72 w A0_4 l0_4.length l0_4) (hc0_4 : l0_4.length ≤ c0_4) (hr0_5 : Kd.C (Kd.int .i64) w A0_5 l0_5.length l0_5) (hc0_5 : l0_5.length ≤ c0_5) (hr0_6 : Kd.C (Kd.int .i64) w A0_6 l0_6.length l0_6) (hc0_6 : l0_6.length ≤ c0_6) (h : image_Part.f k a0_0 l0_1 l0_2 l0_3 l0_4 l0_5 l0_6 a1 a2 = some (r1, r2, r3, r4, r5, r6)) :
  Calls Try.prog 23 #[.agg #[.string a0_0, .slice A0_1 l0_1.length c0_1, .slice A0_2 l0_2.length c0_2, .slice A0_3 l0_3.length c0_3, .slice A0_4 l0_4.length c0_4, .slice A0_5 l0_5.length c0_5, .slice A0_6 l0_6.length c0_6], .int .u64 a1, .int .i64 a2] w fun e w' => e = .returned (.agg #[.int .u64 r1, .int .u64 r2, .int .u64 r3, .int .i64 r4, .int .i64 r5, .bool r6]) ∧ Below w.heap.size w w' := by
 have hu28 := Try.underlying28
 have hu37 := Try.underlying37
 have hu67 := Try.underlying67
 have HR0_1 := am hr0_1
 have HC0_1 := am hc0_1
 clear hr0_1 hc0_1
 have HR0_2 := am hr0_2
 have HC0_2 := am hc0_2
 clear hr0_2 hc0_2
 have HR0_3 := am hr0_3
 have HC0_3 := am hc0_3
 clear hr0_3 hc0_3
 have HR0_4 := am hr0_4
 have HC0_4 := am hc0_4
 clear hr0_4 hc0_4
 have HR0_5 := am hr0_5
 have HC0_5 := am hc0_5
 clear hr0_5 hc0_5
 have HR0_6 := am hr0_6
 have HC0_6 := am hc0_6
 clear hr0_6 hc0_6
 have HB := am (Below.refl w.heap.size w)
 have H : (if 0 ≤ a2 then (if a2 < (l0_2.length : Int) then ((image_Perms.f k ((rd_T67 l0_2 a2).f2)).bind fun t181 => ((image_of.f (IntKind.u64.wrap (a1 + ((rd_T67 l0_2 a2).f0))) ((rd_T67 l0_2 a2).f1) t181).bind fun bt182 => (some (bt182.1, bt182.2.1, bt182.2.2.1, bt182.2.2.2.1, bt182.2.2.2.2.1, bt182.2.2.2.2.2)))) else (none)) else (none)) = some (r1, r2, r3, r4, r5, r6) := h
 clear h
 obtain ⟨c4, H⟩ := ic H
 have c4b0 : decide (0 ≤ a2) = true := decide_eq_true c4
 clear c4
 obtain ⟨c5, H⟩ := ic H
 have c5b0 : decide (a2 < (l0_2.length : Int)) = true := decide_eq_true c5
 clear c5
 replace H := Option.bind_eq_some_iff.mp H
 obtain ⟨t181, A60, H⟩ := H
 replace H : ((image_of.f (IntKind.u64.wrap (a1 + ((rd_T67 l0_2 a2).f0))) ((rd_T67 l0_2 a2).f1) t181).bind fun bt182 => (some (bt182.1, bt182.2.1, bt182.2.2.1, bt182.2.2.2.1, bt182.2.2.2.2.1, bt182.2.2.2.2.2))) = some (r1, r2, r3, r4, r5, r6) := H
 have A6 := am A60
 clear A60
 replace H := Option.bind_eq_some_iff.mp H
 obtain ⟨⟨t182, t183, t184, t185, t186, t187⟩, A70, H⟩ := H
 replace H : (some (t182, t183, t184, t185, t186, t187)) = some (r1, r2, r3, r4, r5, r6) := H
 have A7 := am A70
 clear A70
 simp only [Option.some.injEq, Prod.mk.injEq] at H
 obtain ⟨rfl, rfl, rfl, rfl, rfl, rfl⟩ := H
 go_enter Try.func23, Try.ntmps23
 try go_wp2_with (first | ((with_reducible refine gate_dst (N := 3) rfl ?_); refine box_event ?hg (N := 3) ?hd (cs := #[.string a0_0, .slice A0_1 l0_1.length c0_1, .slice A0_2 l0_2.length c0_2, .slice A0_3 l0_3.length c0_3, .slice A0_4 l0_4.length c0_4, .slice A0_5 l0_5.length c0_5, .slice A0_6 l0_6.length c0_6]) (t := 28) ?hr ?_; (case hd => rfl); (case hg => rfl); (case hr => first | (go_simp; done) | (go_simp; rfl)); intro gb177 hg w8 hbox hb; have n0_ := bs HB hb; have n1_ := am (hbox); have n2_ := nz HB hg; have n3_ := nz HB hg; revert n0_ n1_ n2_ n3_; clear HB; intro HB BK177 GW177 GE177; clear hb hbox hg) | ((with_reducible refine gate_dst (N := 6) rfl ?_); refine box_event ?hg (N := 6) ?hd (cs := #[.int .u64 0, .int .u64 0, .int .u64 0, .int .i64 0, .int .i64 0, .bool false]) (t := 37) ?hr ?_; (case hd => rfl); (case hg => rfl); (case hr => first | (go_simp; done) | (go_simp; rfl)); intro gb178 hg w9 hbox hb; have n0_ := bw BK177 hb; have n1_ := bs HB hb; have n2_ := am (hbox); have n3_ := nz HB hg; have n4_ := nz HB hg; have n5_ := nl BK177 hg; have n6_ := nr BK177 hg; revert n0_ n1_ n2_ n3_ n4_ n5_ n6_; clear BK177 HB; intro BK177 HB BK178 GW178 GE178 NB177_178 NB178_177; clear hb hbox hg; have hnb10 := NB177_178.out; have hnc10 := NB178_177.out; obtain ⟨hcz11_0, hcz11_1, hcz11_2, hcz11_3, hcz11_4, hcz11_5, hcz11_6, hfz11_0, hfz11_1, hfz11_2, hfz11_3, hfz11_4, hfz11_5, hfz11_6⟩ := cells7 BK177.out; have p179 : 0 ≤ (a2 : Int) := ud; have q179 : a2 < (l0_2.length : Int) := ud; obtain ⟨ad179, A179_3, c179_3, e179, hx179_0, hx179_1, hx179_2, hx179_3, hl179_3, hi179_3⟩ := at_T67 HR0_2.out a2 p179 q179; cases e179; replace hx179_0 := bcel HB hx179_0; replace hx179_1 := bcel HB hx179_1; replace hx179_2 := bcel HB hx179_2; replace hx179_3 := bcel HB hx179_3; have HR179_3 := am hi179_3; have HC179_3 := am hl179_3; clear hi179_3 hl179_3; replace p179 := eq_true p179; replace q179 := eq_true q179) | ((with_reducible refine gate_dst (N := 7) rfl ?_); refine box_event ?hg (N := 7) ?hd (cs := #[.int .u64 0, .int .u64 0, .int .i64 0, .slice none 0 0]) (t := 67) ?hr ?_; (case hd => rfl); (case hg => rfl); (case hr => first | (go_simp; done) | (go_simp; rfl)); intro gb180 hg w12 hbox hb; have n0_ := bw BK177 hb; have n1_ := bw BK178 hb; have n2_ := bs HB hb; have n3_ := am (hbox); have n4_ := nz HB hg; have n5_ := nz HB hg; have n6_ := nl BK177 hg; have n7_ := nr BK177 hg; have n8_ := nl BK178 hg; have n9_ := nr BK178 hg; revert n0_ n1_ n2_ n3_ n4_ n5_ n6_ n7_ n8_ n9_; clear BK177 BK178 HB; intro BK177 BK178 HB BK180 GW180 GE180 NB177_180 NB180_177 NB178_180 NB180_178; clear hb hbox hg; have hnb13 := NB180_177.out; have hnc13 := NB177_180.out; have hnb14 := NB180_178.out; have hnc14 := NB178_180.out; obtain ⟨hcz15_0, hcz15_1, hcz15_2, hcz15_3, hfz15_0, hfz15_1, hfz15_2, hfz15_3⟩ := cells4 BK180.out) | ((with_reducible refine gate_store (t := 67) (p := 7) rfl ?_); refine store_event (t := 67) (p := 7) (v := ?vo_w16) (w1 := ((((w12.setCell ⟨gb180, 0, none⟩ (.int .u64 ((rd_T67 l0_2 a2).f0))).setCell ⟨gb180, 1, none⟩ (.int .u64 ((rd_T67 l0_2 a2).f1))).setCell ⟨gb180, 2, none⟩ (.int .i64 ((rd_T67 l0_2 a2).f2))).setCell ⟨gb180, 3, none⟩ (.slice A179_3 ((rd_T67 l0_2 a2).f3).length c179_3))) ?hg ?ho ?hn ?hr ?_; (case ho => rfl); (case hg => rfl); (case hn => rfl); (case hr => first | (go_simp; done) | (go_simp; rfl)); intro w16 hw; have n0_ := bf4 hw NB177_180 BK177; have n1_ := bf4 hw NB178_180 BK178; have n2_ := bp4 #[.int .u64 ((rd_T67 l0_2 a2).f0), .int .u64 ((rd_T67 l0_2 a2).f1), .int .i64 ((rd_T67 l0_2 a2).f2), .slice A179_3 ((rd_T67 l0_2 a2).f3).length c179_3] hw BK180; have n3_ : Aside0 (Below w.heap.size w w16) := ⟨(by rw [hw]; exact (uc HB.out))⟩; revert n0_ n1_ n2_ n3_; clear hw BK177 BK178 BK180 HB; intro BK177 BK178 BK180 HB))
 have n0_ := am (blk_drew BK177.out)
 have n1_ := am (blk_drew BK178.out)
 have n2_ := am (blk_drew BK180.out)
 have n3_ := am (below_drew1 HB.out)
 revert n0_ n1_ n2_ n3_
 clear BK177 BK178 BK180 HB
 intro BK177 BK178 BK180 HB
 refine sr 11 [] (hE4 BK180) (fun hHeld => ?_); refine with_tabW image_Part.tab2 image_Part.bits2 (fun HT_ HW_ => ?_)
 generalize w16.drew = w17 at BK177 BK178 BK180 HB hHeld ⊢
 refine pv 0 13 (bA 11 1) HT_ ?_
 refine pv 1 14 (bA 11 3) HT_ ?_
 refine pv 4 17 (bA 11 19) HT_ ?_
 refine pv 6 19 (bA 11 83) HT_ ?_
 refine tv 2 15 (bA 11 87) HT_ HW_ hHeld ?_ (hy := by rintro w' ⟨s0, s1, s2, s3⟩; go_simp; with_reducible rfl)
 refine pv 3 16 (bA 11 95) HT_ ?_
 refine tv 5 18 (bA 11 127) HT_ HW_ hHeld ?_ (hy := by rintro w' ⟨s0, s1, s2, s3⟩; go_simp; with_reducible rfl)
 refine tv 7 20 (bA 11 255) HT_ HW_ hHeld ?_ (hy := by rintro w' ⟨s0, s1, s2, s3⟩; go_simp; with_reducible rfl)
 refine one_ (i := 8) (N := some 21) (bA 11 511) rfl rfl (one_of HT_.out (by kernel_rfl)) (by decide) (fun K hK => ?_)
 refine goes_ Try.func46 (by kernel_rfl) rfl #[.int .i64 ((rd_T67 l0_2 a2).f2)] (by rfl) rfl rfl (by (try simp only [List.map_toArray, List.map_cons, List.map_nil]); first | done | rfl | (simp only [List.length_drop, List.length_take]; rfl)) ?_
 with_reducible refine (image_Perms.calls k ((rd_T67 l0_2 a2).f2) t181 _ A6.out).mono ?_
 rintro e w' ⟨rfl, ⟨nd, rfl⟩⟩
 refine ⟨_, rfl, ?_⟩
 refine hK.out _ _ ⟨cz BK180 0, cz BK180 1, cz BK180 2, cz BK180 3⟩ (fun hHeld => ?_)
 clear hK K
 refine norm_ (a' := ?_) ?_ ?_
 rotate_left
 ·show Act.put _ (some 21) _ = _
  simp only [Act.put, List.setIfInBounds_toArray, List.set_cons_zero, List.set_cons_succ, i64_w, i32_w]
  rfl
 refine one_ (i := 9) (N := some 22) (bA 11 1023) rfl rfl (one_of HT_.out (by kernel_rfl)) (by decide) (fun K hK => ?_)
 refine goes_ Try.func45 (by kernel_rfl) rfl #[.int .u64 (IntKind.u64.wrap (a1 + ((rd_T67 l0_2 a2).f0))), .int .u64 ((rd_T67 l0_2 a2).f1), .int .i64 t181] (by rfl) rfl rfl (by (try simp only [List.map_toArray, List.map_cons, List.map_nil]); first | done | rfl | (simp only [List.length_drop, List.length_take]; rfl)) ?_
 with_reducible refine (image_of.calls (IntKind.u64.wrap (a1 + ((rd_T67 l0_2 a2).f0))) ((rd_T67 l0_2 a2).f1) t181 t182 t183 t184 t185 t186 t187 _ A7.out).mono ?_
 rintro e w18 ⟨rfl, hb⟩
 refine ⟨_, rfl, ?_⟩
 have n0_ := bw BK177 hb
 have n1_ := bw BK178 hb
 have n2_ := bw BK180 hb
 have n3_ := bs HB hb
 revert n0_ n1_ n2_ n3_
 clear BK177 BK178 BK180 HB
 intro BK177 BK178 BK180 HB
 (try clear hb)
 (try clear hb2)
 (try clear hk)
 (try clear hi)
 refine hK.out _ _ ⟨cz BK180 0, cz BK180 1, cz BK180 2, cz BK180 3⟩ (fun hHeld => ?_)
 clear hK K
 refine norm_ (a' := ?_) ?_ ?_
 rotate_left
 ·show Act.put _ (some 22) _ = _
  simp only [Act.put, List.setIfInBounds_toArray, List.set_cons_zero, List.set_cons_succ, i64_w, i32_w]
  rfl
 refine one_ (i := 10) (N := none) (bA 11 2047) rfl rfl (one_of HT_.out (by kernel_rfl)) (by decide) (fun K hK => ?_)
 have hs19 : w18.cell? ⟨gb178, 0, none⟩ = some (.int .u64 0) := cz BK178 0
 have hfs19 := fz BK178 0
 have hns19_0 := NB177_178.out
 have hns19_2 := NB180_178.out
 have hms19_0 := NB178_177.out
 have hms19_2 := NB178_180.out
 have hs20 : w18.cell? ⟨gb178, 1, none⟩ = some (.int .u64 0) := cz BK178 1
 have hfs20 := fz BK178 1
 have hns20_0 := NB177_178.out
 have hns20_2 := NB180_178.out
 have hms20_0 := NB178_177.out
 have hms20_2 := NB178_180.out
 have hs21 : w18.cell? ⟨gb178, 2, none⟩ = some (.int .u64 0) := cz BK178 2
 have hfs21 := fz BK178 2
 have hns21_0 := NB177_178.out
 have hns21_2 := NB180_178.out
 have hms21_0 := NB178_177.out
 have hms21_2 := NB178_180.out
 have hs22 : w18.cell? ⟨gb178, 3, none⟩ = some (.int .i64 0) := cz BK178 3
 have hfs22 := fz BK178 3
 have hns22_0 := NB177_178.out
 have hns22_2 := NB180_178.out
 have hms22_0 := NB178_177.out
 have hms22_2 := NB178_180.out
 have hs23 : w18.cell? ⟨gb178, 4, none⟩ = some (.int .i64 0) := cz BK178 4
 have hfs23 := fz BK178 4
 have hns23_0 := NB177_178.out
 have hns23_2 := NB180_178.out
 have hms23_0 := NB178_177.out
 have hms23_2 := NB178_180.out
 have hs24 : w18.cell? ⟨gb178, 5, none⟩ = some (.bool false) := cz BK178 5
 have hfs24 := fz BK178 5
 have hns24_0 := NB177_178.out
 have hns24_2 := NB180_178.out
 have hms24_0 := NB178_177.out
 have hms24_2 := NB178_180.out
 refine skip_ (w1 := ?_) (by rfl) rfl ?_ ?_
 rotate_left
 ·go_simp
  rfl
 refine hK.out _ _ ⟨((cnf6 (NB180_178.out)).trans (hHeld.1)), ((cnf6 (NB180_178.out)).trans (hHeld.2.1)), ((cnf6 (NB180_178.out)).trans (hHeld.2.2.1)), ((cnf6 (NB180_178.out)).trans (hHeld.2.2.2))⟩ (fun hHeld => ?_)
 clear hK K
 refine done_ (done_of HT_.out (by kernel_rfl)) ?_
 try go_wp2
 refine bodyPost_ret (results_cell_row rfl _ _ gb178 37 #[.int .u64 t182, .int .u64 t183, .int .u64 t184, .int .i64 t185, .int .i64 t186, .bool t187] (0, 0) _ rfl (by (with_reducible repeat (first | refine blk_drewN ?_ _ | refine blk_drew ?_ | refine blk_alloc ?_ _)); refine blk_put (cs := #[.int .u64 t182, .int .u64 t183, .int .u64 t184, .int .i64 t185, .int .i64 t186, .bool false]) ?_ 5 _ rfl; (with_reducible repeat (first | refine blk_drewN ?_ _ | refine blk_drew ?_ | refine blk_alloc ?_ _)); refine blk_put (cs := #[.int .u64 t182, .int .u64 t183, .int .u64 t184, .int .i64 t185, .int .i64 0, .bool false]) ?_ 4 _ rfl; (with_reducible repeat (first | refine blk_drewN ?_ _ | refine blk_drew ?_ | refine blk_alloc ?_ _)); refine blk_put (cs := #[.int .u64 t182, .int .u64 t183, .int .u64 t184, .int .i64 0, .int .i64 0, .bool false]) ?_ 3 _ rfl; (with_reducible repeat (first | refine blk_drewN ?_ _ | refine blk_drew ?_ | refine blk_alloc ?_ _)); refine blk_put (cs := #[.int .u64 t182, .int .u64 t183, .int .u64 0, .int .i64 0, .int .i64 0, .bool false]) ?_ 2 _ rfl; (with_reducible repeat (first | refine blk_drewN ?_ _ | refine blk_drew ?_ | refine blk_alloc ?_ _)); refine blk_put (cs := #[.int .u64 t182, .int .u64 0, .int .u64 0, .int .i64 0, .int .i64 0, .bool false]) ?_ 1 _ rfl; (with_reducible repeat (first | refine blk_drewN ?_ _ | refine blk_drew ?_ | refine blk_alloc ?_ _)); refine blk_put (cs := #[.int .u64 0, .int .u64 0, .int .u64 0, .int .i64 0, .int .i64 0, .bool false]) ?_ 0 _ rfl; (with_reducible repeat (first | refine blk_drewN ?_ _ | refine blk_drew ?_ | refine blk_alloc ?_ _)); exact BK178.out) Try.underlying37 rfl (by kernel_rfl)) rfl ?_
 exact ur (uc HB.out)

theorem ret_at {k : IntKind} {a b : Int} (h : a = b) : Ending.returned (.int k a) = .returned (.int k b) := by rw [h]
theorem ret_bt {a b : Bool} (h : a = b) : Ending.returned (.bool a) = .returned (.bool b) := by rw [h]
/-- The first place of a list that has p; -1: there is none. -/
def firstOf {α : Type} (p : α → Bool) (l : List α) : Int := match l.findIdx? p with | none => -1 | some i => (i : Int)
theorem firstOf_here {α : Type} {p : α → Bool} {l : List α} {d : α} {j : Nat} (hj : j < l.length) (hb : ∀ i, i < j → p (l.getD i d) = false) (h : p (l.getD j d) = true) : firstOf p l = j := by
  have e : l.findIdx? p = some j := by
    rw [List.findIdx?_eq_some_iff_getElem]
    refine ⟨hj, by simpa [List.getD_eq_getElem?_getD, List.getElem?_eq_getElem hj] using h, fun i hi => ?_⟩
    have := hb i hi
    simpa [List.getD_eq_getElem?_getD, List.getElem?_eq_getElem (show i < l.length by omega)] using this
  unfold firstOf; rw [e]
theorem firstOf_none {α : Type} {p : α → Bool} {l : List α} {d : α} (hb : ∀ i, i < l.length → p (l.getD i d) = false) : firstOf p l = -1 := by
  have e : l.findIdx? p = none := by
    rw [List.findIdx?_eq_none_iff]
    intro x hx
    obtain ⟨i, hi, rfl⟩ := List.getElem_of_mem hx
    have := hb i hi
    simpa [List.getD_eq_getElem?_getD, List.getElem?_eq_getElem hi] using this
  unfold firstOf; rw [e]
def inSeg (at_ n : Int) (s : S67) : Bool := decide (at_ ≥ s.f0) && (decide (IntKind.u64.wrap (at_ - s.f0) ≤ s.f1) && decide (n ≤ IntKind.u64.wrap (s.f1 - IntKind.u64.wrap (at_ - s.f0))))
set_option maxHeartbeats 1000000 in
set_option maxRecDepth 100000 in
theorem celf_At_1.calls (x : S67) (A : Option Addr) (c : Nat) (at_ n : Int) (ga gn : Nat) (w : World) (hga : w.heap[ga]? = some (.cells #[.int .u64 at_] 29 (0, 0))) (hgn : w.heap[gn]? = some (.cells #[.int .u64 n] 29 (0, 0))) :
  Calls Try.prog 48 #[.agg #[.int .u64 x.f0, .int .u64 x.f1, .int .i64 x.f2, .slice A x.f3.length c], .pointer (some ⟨ga, 0, none⟩), .pointer (some ⟨gn, 0, none⟩)] w fun e w' => e = .returned (.bool (inSeg at_ n x)) ∧ Below w.heap.size w w' := by
 have hu := Try.underlying67
 have hal := blk_lt hga
 have hnl := blk_lt hgn
 have ha1 := blk_cell hga 0
 have hn1 := blk_cell hgn 0
 have HNA : ¬ (w.heap.size = ga) := by omega
 have HNN : ¬ (w.heap.size = gn) := by omega
 clear hga hgn
 by_cases c1 : at_ ≥ x.f0
 ·have b1 : decide (at_ ≥ x.f0) = true := decide_eq_true c1
  by_cases c2 : IntKind.u64.wrap (at_ - x.f0) ≤ x.f1
  ·have b2 : decide (IntKind.u64.wrap (at_ - x.f0) ≤ x.f1) = true := decide_eq_true c2
   by_cases c3 : n ≤ IntKind.u64.wrap (x.f1 - IntKind.u64.wrap (at_ - x.f0))
   ·have b3 : decide (n ≤ IntKind.u64.wrap (x.f1 - IntKind.u64.wrap (at_ - x.f0))) = true := decide_eq_true c3
    have E := am (show inSeg at_ n x = true by unfold inSeg; rw [b1, b2, b3]; rfl)
    clear c1 c2 c3
    go_enter Try.func48, Try.ntmps48
    go_wp2
    go_ret
    exact ⟨ret_bt (by rw [E.out]), (Below.refl _ _).alloc (Nat.le_refl _) _⟩
   ·have b3 : decide (n ≤ IntKind.u64.wrap (x.f1 - IntKind.u64.wrap (at_ - x.f0))) = false := decide_eq_false c3
    have E := am (show inSeg at_ n x = false by unfold inSeg; rw [b1, b2, b3]; rfl)
    clear c1 c2 c3
    go_enter Try.func48, Try.ntmps48
    go_wp2
    go_ret
    exact ⟨ret_bt (by rw [E.out]), (Below.refl _ _).alloc (Nat.le_refl _) _⟩
  ·have b2 : decide (IntKind.u64.wrap (at_ - x.f0) ≤ x.f1) = false := decide_eq_false c2
   have E := am (show inSeg at_ n x = false by unfold inSeg; rw [b1, b2]; rfl)
   clear c1 c2
   go_enter Try.func48, Try.ntmps48
   go_wp2
   go_ret
   exact ⟨ret_bt (by rw [E.out]), (Below.refl _ _).alloc (Nat.le_refl _) _⟩
 ·have b1 : decide (at_ ≥ x.f0) = false := decide_eq_false c1
  have E := am (show inSeg at_ n x = false by unfold inSeg; rw [b1]; rfl)
  clear c1
  go_enter Try.func48, Try.ntmps48
  go_wp2
  go_ret
  exact ⟨ret_bt (by rw [E.out]), (Below.refl _ _).alloc (Nat.le_refl _) _⟩
set_option maxHeartbeats 1000000 in
set_option maxRecDepth 100000 in
theorem slices_IndexFunc_At.calls (A0 : Option Addr) (c0 : Nat) (l0 : List S67) (at_ n : Int) (ga gn : Nat) (w : World) (hr0 : Kd.C k67 w A0 l0.length l0) (hc0 : l0.length ≤ c0) (hga : w.heap[ga]? = some (.cells #[.int .u64 at_] 29 (0, 0))) (hgn : w.heap[gn]? = some (.cells #[.int .u64 n] 29 (0, 0))) :
  Calls Try.prog 47 #[.slice A0 l0.length c0, .func (.func 48) #[] #[.pointer (some ⟨ga, 0, none⟩), .pointer (some ⟨gn, 0, none⟩)]] w fun e w' => e = .returned (.int .i64 (firstOf (inSeg at_ n) l0)) ∧ Below w.heap.size w w' := by
 have HR0 := am hr0
 have HC0 := am hc0
 have HGA := am hga
 have HGN := am hgn
 have hlen : l0.length ≤ 9223372036854775807 := hr0.2.1
 clear hr0 hc0 hga hgn
 go_enter Try.func47, Try.ntmps47
 go_wp2
 go_loopw [5, 8] (fun v5 v8 wr => ∃ (j : Nat), v8 = .int .i64 j ∧ j ≤ l0.length ∧ Aside0 (∀ i, i < j → inSeg at_ n (l0.getD i z67) = false) ∧ Aside0 (Below w.heap.size w wr)) (fun _ v8 _ => l0.length - (intOf v8).toNat)
 case atStart => exact ⟨0, rfl, by omega, ⟨fun i hi => by omega⟩, ⟨Below.refl _ _⟩⟩
 case round =>
  obtain ⟨j, rfl, hj, HF, HB⟩ := hrel
  by_cases hlt : j < l0.length
  ·have p1 : 0 ≤ (j : Int) := by omega
   have q1 : (j : Int) < l0.length := by omega
   obtain ⟨ad, A3, c3, eA, hx0, hx1, hx2, hx3, hl3, hi3⟩ := at_T67 (Kd.C_below HR0.out HB.out) (j : Int) p1 q1
   cases eA
   simp only [Int.toNat_natCast] at hx0 hx1 hx2 hx3
   clear hl3 hi3
   cases hb : inSeg at_ n (rd_T67 l0 (j : Int))
   ·have HN := am hb
    clear hb
    go_wp2_with (go_at_call 48; refine (celf_At_1.calls (rd_T67 l0 (j : Int)) _ _ at_ n ga gn _ (blk_below HGA.out HB.out) (blk_below HGN.out HB.out)).mono ?_; rintro e w' ⟨rfl, hb⟩; have hr := HN.out; rw [hr]; clear hr; have HB2 := am (below_step HB.out hb); clear hb)
    go_roundw
    case rel => exact ⟨j + 1, by go_num, by omega, ⟨fun i hi => by
      rcases Nat.lt_succ_iff_lt_or_eq.1 hi with h | h
      ·exact HF.out i h
      ·subst h; exact HN.out⟩, HB2⟩
    case measure => simp [intOf]; omega
   ·have HN := am hb
    clear hb
    go_wp2_with (go_at_call 48; refine (celf_At_1.calls (rd_T67 l0 (j : Int)) _ _ at_ n ga gn _ (blk_below HGA.out HB.out) (blk_below HGN.out HB.out)).mono ?_; rintro e w' ⟨rfl, hb⟩; have hr := HN.out; rw [hr]; clear hr; have HB2 := am (below_step HB.out hb); clear hb)
    go_ret
    exact ⟨ret_at (firstOf_here hlt HF.out HN.out).symm, HB2.out⟩
  ·go_wp2
   go_ret
   obtain rfl : j = l0.length := by omega
   exact ⟨ret_at (firstOf_none HF.out).symm, HB.out⟩
def celf_At.f (_a0_0 : ByteArray) (_l0_1 : List ByteArray) (l0_2 : List S67) (_l0_3 : List S35) (_l0_4 : List S72) (_l0_5 : List Int) (_l0_6 : List Int) (a1 a2 : Int) : Option Int := some (firstOf (inSeg a1 a2) l0_2)
set_option maxHeartbeats 1000000 in
set_option maxRecDepth 100000 in
theorem celf_At.calls (a0_0 : ByteArray) (A0_1 : Option Addr) (c0_1 : Nat) (l0_1 : List ByteArray) (A0_2 : Option Addr) (c0_2 : Nat) (l0_2 : List (S67)) (A0_3 : Option Addr) (c0_3 : Nat) (l0_3 : List (S35)) (A0_4 : Option Addr) (c0_4 : Nat) (l0_4 : List (S72)) (A0_5 : Option Addr) (c0_5 : Nat) (l0_5 : List Int) (A0_6 : Option Addr) (c0_6 : Nat) (l0_6 : List Int) (a1 : Int) (a2 : Int) (r : Int) (w : World) (hr0_1 : Kd.C Kd.string w A0_1 l0_1.length l0_1) (hc0_1 : l0_1.length ≤ c0_1) (hr0_2 : Kd.C k67 w A0_2 l0_2.length l0_2) (hc0_2 : l0_2.length ≤ c0_2) (hr0_3 : Kd.C k35 w A0_3 l0_3.length l0_3) (hc0_3 : l0_3.length ≤ c0_3) (hr0_4 : Kd.C k72 w A0_4 l0_4.length l0_4) (hc0_4 : l0_4.length ≤ c0_4) (hr0_5 : Kd.C (Kd.int .i64) w A0_5 l0_5.length l0_5) (hc0_5 : l0_5.length ≤ c0_5) (hr0_6 : Kd.C (Kd.int .i64) w A0_6 l0_6.length l0_6) (hc0_6 : l0_6.length ≤ c0_6) (h : celf_At.f a0_0 l0_1 l0_2 l0_3 l0_4 l0_5 l0_6 a1 a2 = some r) :
  Calls Try.prog 24 #[.agg #[.string a0_0, .slice A0_1 l0_1.length c0_1, .slice A0_2 l0_2.length c0_2, .slice A0_3 l0_3.length c0_3, .slice A0_4 l0_4.length c0_4, .slice A0_5 l0_5.length c0_5, .slice A0_6 l0_6.length c0_6], .int .u64 a1, .int .u64 a2] w fun e w' => e = .returned (.int .i64 r) ∧ Below w.heap.size w w' := by
 obtain rfl := Option.some.inj h
 have hu := Try.underlying28
 have HR := am hr0_2
 have HC := am hc0_2
 clear h hr0_1 hc0_1 hr0_2 hc0_2 hr0_3 hc0_3 hr0_4 hc0_4 hr0_5 hc0_5 hr0_6 hc0_6
 have hmf : ∀ (fn : Fn) (first cap : Array Value) (w : World), (Instr.makeFunc fn first cap).run Try.prog w = .ok (.func fn first cap) w := fun _ _ _ _ => rfl
 go_enter Try.func24, Try.ntmps24
 go_wp2_with (first | ((with_reducible refine gate_dst (N := 3) rfl ?_); refine box_event ?hg (N := 3) ?hd (cs := #[.string a0_0, .slice A0_1 l0_1.length c0_1, .slice A0_2 l0_2.length c0_2, .slice A0_3 l0_3.length c0_3, .slice A0_4 l0_4.length c0_4, .slice A0_5 l0_5.length c0_5, .slice A0_6 l0_6.length c0_6]) (t := 28) ?hr ?_; (case hd => rfl); (case hg => rfl); (case hr => first | (go_simp; done) | (go_simp; rfl)); intro go hg w1 hbox hb; have HO := am hbox; have HB := am hb; clear hb hbox hg) | ((with_reducible refine gate_dst (N := 4) rfl ?_); refine box_event ?hg (N := 4) ?hd (cs := #[.int .u64 a1]) (t := 29) ?hr ?_; (case hd => rfl); (case hg => rfl); (case hr => first | (go_simp; done) | (go_simp; rfl)); intro ga hg w2 hbox hb; have HGA := am hbox; have HO2 := am (blk_below HO.out hb); have HB2 := am (below_step HB.out hb); clear hb hbox hg) | ((with_reducible refine gate_dst (N := 5) rfl ?_); refine box_event ?hg (N := 5) ?hd (cs := #[.int .u64 a2]) (t := 29) ?hr ?_; (case hd => rfl); (case hg => rfl); (case hr => first | (go_simp; done) | (go_simp; rfl)); intro gn hg w3 hbox hb; have HGN := am hbox; have HGA3 := am (blk_below HGA.out hb); have HO3 := am (blk_below HO2.out hb); have HB3 := am (below_step HB2.out hb); have ho2 : w3.cell? ⟨go, 2, none⟩ = some (.slice A0_2 l0_2.length c0_2) := cz HO3 2; clear hb hbox hg) | (go_at_call 47; refine (slices_IndexFunc_At.calls A0_2 c0_2 l0_2 a1 a2 ga gn _ (Kd.C_below HR.out HB3.out) HC.out HGA3.out HGN.out).mono ?_; rintro e w4 ⟨rfl, hb⟩; have HB4 := am (below_step HB3.out hb); clear hb))
 go_ret
 exact ⟨rfl, HB4.out⟩

end Go.Proofs.Ytlbfeklpncoccaa.P
