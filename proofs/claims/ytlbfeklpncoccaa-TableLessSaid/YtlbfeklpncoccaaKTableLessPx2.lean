/- What functions of the program, and of its laws, give, each proved of its code by a walk; no condition. -/
import Derived.Test.YtlbfeklpncoccaaKTableLessPx0
import Derived.Test.YtlbfeklpncoccaaKTableLessPx1
import Derived.Test.YtlbfeklpncoccaaKTableLessSq
import Derived.Test.YtlbfeklpncoccaaKTableLessUsh
import Derived.Test.YtlbfeklpncoccaaKTableLessUs4
namespace Go.Proofs.Ytlbfeklpncoccaa.P
open Go.RowKit Go.Proofs.YtlbfeklpncoccaaW.PrintWords Go.Proofs.YtlbfeklpncoccaaW.PrintLast Go.Proofs.YtlbfeklpncoccaaW.PrintMore
attribute [local go_sem] max2_int min2_int max_two min_two max_three min_three max_four min_four   -- for this text's walks alone
set_option linter.unusedVariables false
set_option linter.unusedSimpArgs false

attribute [local go_sem high] eqA37
def cap_sealed.f (a0_0 : Int) (a0_1 : Int) (a0_2 : Int) (a0_3 : Int) (a0_4 : Int) (a0_5 : Bool) : Option (Bool) := some (decide (a0_4 ≥ 0))
set_option maxHeartbeats 8000000 in
set_option maxRecDepth 100000 in
theorem cap_sealed.calls (a0_0 : Int) (a0_1 : Int) (a0_2 : Int) (a0_3 : Int) (a0_4 : Int) (a0_5 : Bool) (r : Bool) (w : World) (h : cap_sealed.f a0_0 a0_1 a0_2 a0_3 a0_4 a0_5 = some r) :
  Calls Try.prog 52 #[.agg #[.int .u64 a0_0, .int .u64 a0_1, .int .u64 a0_2, .int .i64 a0_3, .int .i64 a0_4, .bool a0_5]] w fun e w' => e = .returned (.bool r) ∧ Below w.heap.size w w' := by
 have hu37 := Try.underlying37
 have HB := am (Below.refl w.heap.size w)
 have H : (some (decide (a0_4 ≥ 0))) = some r := h
 clear h
 obtain rfl := Option.some.inj H
 go_enter Try.func52, Try.ntmps52
 go_wp2_with (first | ((with_reducible refine gate_dst (N := 1) rfl ?_); refine box_event ?hg (N := 1) ?hd (cs := #[.int .u64 a0_0, .int .u64 a0_1, .int .u64 a0_2, .int .i64 a0_3, .int .i64 a0_4, .bool a0_5]) (t := 37) ?hr ?_; (case hd => rfl); (case hg => rfl); (case hr => first | (go_simp; done) | (go_simp; rfl)); intro gb101 hg w2 hbox hb; have n0_ := bs HB hb; have n1_ := am (hbox); have n2_ := nz HB hg; have n3_ := nz HB hg; revert n0_ n1_ n2_ n3_; clear HB; intro HB BK101 GW101 GE101; clear hb hbox hg; obtain ⟨hcz3_0, hcz3_1, hcz3_2, hcz3_3, hcz3_4, hcz3_5, hfz3_0, hfz3_1, hfz3_2, hfz3_3, hfz3_4, hfz3_5⟩ := cells6 BK101.out))
 go_ret
 exact ur (uc HB.out)

def cap_open.f (a0_0 : Int) (a0_1 : Int) (a0_2 : Int) (a0_3 : Int) (a0_4 : Int) (a0_5 : Bool) : Option (Int × Int × Int × Int × Int × Bool) := if a0_5 = true then ((cap_sealed.f a0_0 a0_1 a0_2 a0_3 a0_4 a0_5).bind fun t104 => (some (a0_0, a0_1, a0_2, a0_3, a0_4, !t104))) else (some (a0_0, a0_1, a0_2, a0_3, a0_4, false))
set_option maxHeartbeats 8000000 in
set_option maxRecDepth 100000 in
theorem cap_open.calls (a0_0 : Int) (a0_1 : Int) (a0_2 : Int) (a0_3 : Int) (a0_4 : Int) (a0_5 : Bool) (r1 : Int) (r2 : Int) (r3 : Int) (r4 : Int) (r5 : Int) (r6 : Bool) (w : World) (h : cap_open.f a0_0 a0_1 a0_2 a0_3 a0_4 a0_5 = some (r1, r2, r3, r4, r5, r6)) :
  Calls Try.prog 49 #[.agg #[.int .u64 a0_0, .int .u64 a0_1, .int .u64 a0_2, .int .i64 a0_3, .int .i64 a0_4, .bool a0_5]] w fun e w' => e = .returned (.agg #[.int .u64 r1, .int .u64 r2, .int .u64 r3, .int .i64 r4, .int .i64 r5, .bool r6]) ∧ Below w.heap.size w w' := by
 have hu37 := Try.underlying37
 have HB := am (Below.refl w.heap.size w)
 have H : (if a0_5 = true then ((cap_sealed.f a0_0 a0_1 a0_2 a0_3 a0_4 a0_5).bind fun t104 => (some (a0_0, a0_1, a0_2, a0_3, a0_4, !t104))) else (some (a0_0, a0_1, a0_2, a0_3, a0_4, false))) = some (r1, r2, r3, r4, r5, r6) := h
 clear h
 by_cases c2 : a0_5 = true
 ·subst c2
  have H1 : ((cap_sealed.f a0_0 a0_1 a0_2 a0_3 a0_4 true).bind fun t104 => (some (a0_0, a0_1, a0_2, a0_3, a0_4, !t104))) = some (r1, r2, r3, r4, r5, r6) := by rw [if_pos rfl] at H; exact H
  clear H
  have H := H1
  clear H1
  replace H := Option.bind_eq_some_iff.mp H
  obtain ⟨t104, A30, H⟩ := H
  replace H : (some (a0_0, a0_1, a0_2, a0_3, a0_4, !t104)) = some (r1, r2, r3, r4, r5, r6) := H
  have A3 := am A30
  clear A30
  simp only [Option.some.injEq, Prod.mk.injEq] at H
  obtain ⟨rfl, rfl, rfl, rfl, rfl, rfl⟩ := H
  go_enter Try.func49, Try.ntmps49
  go_wp2_with (first | ((with_reducible refine gate_dst (N := 1) rfl ?_); refine box_event ?hg (N := 1) ?hd (cs := #[.int .u64 a0_0, .int .u64 a0_1, .int .u64 a0_2, .int .i64 a0_3, .int .i64 a0_4, .bool true]) (t := 37) ?hr ?_; (case hd => rfl); (case hg => rfl); (case hr => first | (go_simp; done) | (go_simp; rfl)); intro gb102 hg w4 hbox hb; have n0_ := bs HB hb; have n1_ := am (hbox); have n2_ := nz HB hg; have n3_ := nz HB hg; revert n0_ n1_ n2_ n3_; clear HB; intro HB BK102 GW102 GE102; clear hb hbox hg) | ((with_reducible refine gate_dst (N := 2) rfl ?_); refine box_event ?hg (N := 2) ?hd (cs := #[.int .u64 0, .int .u64 0, .int .u64 0, .int .i64 0, .int .i64 0, .bool false]) (t := 37) ?hr ?_; (case hd => rfl); (case hg => rfl); (case hr => first | (go_simp; done) | (go_simp; rfl)); intro gb103 hg w5 hbox hb; have n0_ := bw BK102 hb; have n1_ := bs HB hb; have n2_ := am (hbox); have n3_ := nz HB hg; have n4_ := nz HB hg; have n5_ := nl BK102 hg; have n6_ := nr BK102 hg; revert n0_ n1_ n2_ n3_ n4_ n5_ n6_; clear BK102 HB; intro BK102 HB BK103 GW103 GE103 NB102_103 NB103_102; clear hb hbox hg; have hnb6 := NB102_103.out; have hnc6 := NB103_102.out; obtain ⟨hcz7_0, hcz7_1, hcz7_2, hcz7_3, hcz7_4, hcz7_5, hfz7_0, hfz7_1, hfz7_2, hfz7_3, hfz7_4, hfz7_5⟩ := cells6 BK102.out) | (go_at_call 52; (with_reducible refine (cap_sealed.calls a0_0 a0_1 a0_2 a0_3 a0_4 true t104 _ A3.out).mono ?_); rintro e w8 ⟨rfl, hb⟩; have n0_ := bw BK102 hb; have n1_ := bw BK103 hb; have n2_ := bs HB hb; revert n0_ n1_ n2_; clear BK102 BK103 HB; intro BK102 BK103 HB; (try clear hb); obtain ⟨hcz9_0, hcz9_1, hcz9_2, hcz9_3, hcz9_4, hcz9_5, hfz9_0, hfz9_1, hfz9_2, hfz9_3, hfz9_4, hfz9_5⟩ := cells6 BK102.out; obtain ⟨hcz10_0, hcz10_1, hcz10_2, hcz10_3, hcz10_4, hcz10_5, hfz10_0, hfz10_1, hfz10_2, hfz10_3, hfz10_4, hfz10_5⟩ := cells6 BK103.out) | ((with_reducible refine gate_store (t := 37) (p := 2) rfl ?_); refine store_event (t := 37) (p := 2) (v := ?vo_w11) (w1 := (((((((w8.setCell ⟨gb102, 5, none⟩ (.bool (!t104))).setCell ⟨gb103, 0, none⟩ (.int .u64 a0_0)).setCell ⟨gb103, 1, none⟩ (.int .u64 a0_1)).setCell ⟨gb103, 2, none⟩ (.int .u64 a0_2)).setCell ⟨gb103, 3, none⟩ (.int .i64 a0_3)).setCell ⟨gb103, 4, none⟩ (.int .i64 a0_4)).setCell ⟨gb103, 5, none⟩ (.bool (!t104)))) ?hg ?ho ?hn ?hr ?_; (case ho => rfl); (case hg => rfl); (case hn => rfl); (case hr => first | (go_simp; done) | (go_simp; rfl)); intro w11 hw; have n0_ : Aside0 (w11.heap[gb102]? = some (.cells #[.int .u64 a0_0, .int .u64 a0_1, .int .u64 a0_2, .int .i64 a0_3, .int .i64 a0_4, .bool (!t104)] 37 (0, 0))) := ⟨(by rw [hw]; exact (by (iterate 6 ((with_reducible repeat (first | refine blk_drewN ?_ _ | refine blk_drew ?_ | refine blk_alloc ?_ _)); refine blk_far ?_ NB102_103.out _)); (with_reducible repeat (first | refine blk_drewN ?_ _ | refine blk_drew ?_ | refine blk_alloc ?_ _)); refine blk_put (cs := #[.int .u64 a0_0, .int .u64 a0_1, .int .u64 a0_2, .int .i64 a0_3, .int .i64 a0_4, .bool true]) ?_ 5 _ rfl; (with_reducible repeat (first | refine blk_drewN ?_ _ | refine blk_drew ?_ | refine blk_alloc ?_ _)); exact BK102.out))⟩; have n1_ : Aside0 (w11.heap[gb103]? = some (.cells #[.int .u64 a0_0, .int .u64 a0_1, .int .u64 a0_2, .int .i64 a0_3, .int .i64 a0_4, .bool (!t104)] 37 (0, 0))) := ⟨(by rw [hw]; exact (by (with_reducible repeat (first | refine blk_drewN ?_ _ | refine blk_drew ?_ | refine blk_alloc ?_ _)); refine blk_put (cs := #[.int .u64 a0_0, .int .u64 a0_1, .int .u64 a0_2, .int .i64 a0_3, .int .i64 a0_4, .bool false]) ?_ 5 _ rfl; (with_reducible repeat (first | refine blk_drewN ?_ _ | refine blk_drew ?_ | refine blk_alloc ?_ _)); refine blk_put (cs := #[.int .u64 a0_0, .int .u64 a0_1, .int .u64 a0_2, .int .i64 a0_3, .int .i64 0, .bool false]) ?_ 4 _ rfl; (with_reducible repeat (first | refine blk_drewN ?_ _ | refine blk_drew ?_ | refine blk_alloc ?_ _)); refine blk_put (cs := #[.int .u64 a0_0, .int .u64 a0_1, .int .u64 a0_2, .int .i64 0, .int .i64 0, .bool false]) ?_ 3 _ rfl; (with_reducible repeat (first | refine blk_drewN ?_ _ | refine blk_drew ?_ | refine blk_alloc ?_ _)); refine blk_put (cs := #[.int .u64 a0_0, .int .u64 a0_1, .int .u64 0, .int .i64 0, .int .i64 0, .bool false]) ?_ 2 _ rfl; (with_reducible repeat (first | refine blk_drewN ?_ _ | refine blk_drew ?_ | refine blk_alloc ?_ _)); refine blk_put (cs := #[.int .u64 a0_0, .int .u64 0, .int .u64 0, .int .i64 0, .int .i64 0, .bool false]) ?_ 1 _ rfl; (with_reducible repeat (first | refine blk_drewN ?_ _ | refine blk_drew ?_ | refine blk_alloc ?_ _)); refine blk_put (cs := #[.int .u64 0, .int .u64 0, .int .u64 0, .int .i64 0, .int .i64 0, .bool false]) ?_ 0 _ rfl; (with_reducible repeat (first | refine blk_drewN ?_ _ | refine blk_drew ?_ | refine blk_alloc ?_ _)); refine blk_far ?_ NB103_102.out _; (with_reducible repeat (first | refine blk_drewN ?_ _ | refine blk_drew ?_ | refine blk_alloc ?_ _)); exact BK103.out))⟩; have n2_ : Aside0 (Below w.heap.size w w11) := ⟨(by rw [hw]; exact (uc HB.out))⟩; revert n0_ n1_ n2_; clear hw BK102 BK103 HB; intro BK102 BK103 HB))
  refine bodyPost_ret (results_cell_row rfl _ _ gb103 37 #[.int .u64 a0_0, .int .u64 a0_1, .int .u64 a0_2, .int .i64 a0_3, .int .i64 a0_4, .bool (!t104)] (0, 0) _ rfl (ub BK103.out) Try.underlying37 rfl (by kernel_rfl)) rfl ?_
  exact ur (uc HB.out)
 ·replace c2 := Bool.eq_false_iff.mpr c2
  subst c2
  have H1 : (some (a0_0, a0_1, a0_2, a0_3, a0_4, false)) = some (r1, r2, r3, r4, r5, r6) := by rw [if_neg (show ¬ (false = true) by decide)] at H; exact H
  clear H
  have H := H1
  clear H1
  simp only [Option.some.injEq, Prod.mk.injEq] at H
  obtain ⟨rfl, rfl, rfl, rfl, rfl, rfl⟩ := H
  go_enter Try.func49, Try.ntmps49
  go_wp2_with (first | ((with_reducible refine gate_dst (N := 1) rfl ?_); refine box_event ?hg (N := 1) ?hd (cs := #[.int .u64 a0_0, .int .u64 a0_1, .int .u64 a0_2, .int .i64 a0_3, .int .i64 a0_4, .bool false]) (t := 37) ?hr ?_; (case hd => rfl); (case hg => rfl); (case hr => first | (go_simp; done) | (go_simp; rfl)); intro gb102 hg w12 hbox hb; have n0_ := bs HB hb; have n1_ := am (hbox); have n2_ := nz HB hg; have n3_ := nz HB hg; revert n0_ n1_ n2_ n3_; clear HB; intro HB BK102 GW102 GE102; clear hb hbox hg) | ((with_reducible refine gate_dst (N := 2) rfl ?_); refine box_event ?hg (N := 2) ?hd (cs := #[.int .u64 0, .int .u64 0, .int .u64 0, .int .i64 0, .int .i64 0, .bool false]) (t := 37) ?hr ?_; (case hd => rfl); (case hg => rfl); (case hr => first | (go_simp; done) | (go_simp; rfl)); intro gb103 hg w13 hbox hb; have n0_ := bw BK102 hb; have n1_ := bs HB hb; have n2_ := am (hbox); have n3_ := nz HB hg; have n4_ := nz HB hg; have n5_ := nl BK102 hg; have n6_ := nr BK102 hg; revert n0_ n1_ n2_ n3_ n4_ n5_ n6_; clear BK102 HB; intro BK102 HB BK103 GW103 GE103 NB102_103 NB103_102; clear hb hbox hg; have hnb14 := NB102_103.out; have hnc14 := NB103_102.out; obtain ⟨hcz15_0, hcz15_1, hcz15_2, hcz15_3, hcz15_4, hcz15_5, hfz15_0, hfz15_1, hfz15_2, hfz15_3, hfz15_4, hfz15_5⟩ := cells6 BK102.out; obtain ⟨hcz16_0, hcz16_1, hcz16_2, hcz16_3, hcz16_4, hcz16_5, hfz16_0, hfz16_1, hfz16_2, hfz16_3, hfz16_4, hfz16_5⟩ := cells6 BK103.out) | ((with_reducible refine gate_store (t := 37) (p := 2) rfl ?_); refine store_event (t := 37) (p := 2) (v := ?vo_w17) (w1 := (((((((w13.setCell ⟨gb102, 5, none⟩ (.bool false)).setCell ⟨gb103, 0, none⟩ (.int .u64 a0_0)).setCell ⟨gb103, 1, none⟩ (.int .u64 a0_1)).setCell ⟨gb103, 2, none⟩ (.int .u64 a0_2)).setCell ⟨gb103, 3, none⟩ (.int .i64 a0_3)).setCell ⟨gb103, 4, none⟩ (.int .i64 a0_4)).setCell ⟨gb103, 5, none⟩ (.bool false))) ?hg ?ho ?hn ?hr ?_; (case ho => rfl); (case hg => rfl); (case hn => rfl); (case hr => first | (go_simp; done) | (go_simp; rfl)); intro w17 hw; have n0_ : Aside0 (w17.heap[gb102]? = some (.cells #[.int .u64 a0_0, .int .u64 a0_1, .int .u64 a0_2, .int .i64 a0_3, .int .i64 a0_4, .bool false] 37 (0, 0))) := ⟨(by rw [hw]; exact (by (iterate 6 ((with_reducible repeat (first | refine blk_drewN ?_ _ | refine blk_drew ?_ | refine blk_alloc ?_ _)); refine blk_far ?_ NB102_103.out _)); (with_reducible repeat (first | refine blk_drewN ?_ _ | refine blk_drew ?_ | refine blk_alloc ?_ _)); refine blk_put (cs := #[.int .u64 a0_0, .int .u64 a0_1, .int .u64 a0_2, .int .i64 a0_3, .int .i64 a0_4, .bool false]) ?_ 5 _ rfl; (with_reducible repeat (first | refine blk_drewN ?_ _ | refine blk_drew ?_ | refine blk_alloc ?_ _)); exact BK102.out))⟩; have n1_ : Aside0 (w17.heap[gb103]? = some (.cells #[.int .u64 a0_0, .int .u64 a0_1, .int .u64 a0_2, .int .i64 a0_3, .int .i64 a0_4, .bool false] 37 (0, 0))) := ⟨(by rw [hw]; exact (by (with_reducible repeat (first | refine blk_drewN ?_ _ | refine blk_drew ?_ | refine blk_alloc ?_ _)); refine blk_put (cs := #[.int .u64 a0_0, .int .u64 a0_1, .int .u64 a0_2, .int .i64 a0_3, .int .i64 a0_4, .bool false]) ?_ 5 _ rfl; (with_reducible repeat (first | refine blk_drewN ?_ _ | refine blk_drew ?_ | refine blk_alloc ?_ _)); refine blk_put (cs := #[.int .u64 a0_0, .int .u64 a0_1, .int .u64 a0_2, .int .i64 a0_3, .int .i64 0, .bool false]) ?_ 4 _ rfl; (with_reducible repeat (first | refine blk_drewN ?_ _ | refine blk_drew ?_ | refine blk_alloc ?_ _)); refine blk_put (cs := #[.int .u64 a0_0, .int .u64 a0_1, .int .u64 a0_2, .int .i64 0, .int .i64 0, .bool false]) ?_ 3 _ rfl; (with_reducible repeat (first | refine blk_drewN ?_ _ | refine blk_drew ?_ | refine blk_alloc ?_ _)); refine blk_put (cs := #[.int .u64 a0_0, .int .u64 a0_1, .int .u64 0, .int .i64 0, .int .i64 0, .bool false]) ?_ 2 _ rfl; (with_reducible repeat (first | refine blk_drewN ?_ _ | refine blk_drew ?_ | refine blk_alloc ?_ _)); refine blk_put (cs := #[.int .u64 a0_0, .int .u64 0, .int .u64 0, .int .i64 0, .int .i64 0, .bool false]) ?_ 1 _ rfl; (with_reducible repeat (first | refine blk_drewN ?_ _ | refine blk_drew ?_ | refine blk_alloc ?_ _)); refine blk_put (cs := #[.int .u64 0, .int .u64 0, .int .u64 0, .int .i64 0, .int .i64 0, .bool false]) ?_ 0 _ rfl; (with_reducible repeat (first | refine blk_drewN ?_ _ | refine blk_drew ?_ | refine blk_alloc ?_ _)); refine blk_far ?_ NB103_102.out _; (with_reducible repeat (first | refine blk_drewN ?_ _ | refine blk_drew ?_ | refine blk_alloc ?_ _)); exact BK103.out))⟩; have n2_ : Aside0 (Below w.heap.size w w17) := ⟨(by rw [hw]; exact (uc HB.out))⟩; revert n0_ n1_ n2_; clear hw BK102 BK103 HB; intro BK102 BK103 HB))
  refine bodyPost_ret (results_cell_row rfl _ _ gb103 37 #[.int .u64 a0_0, .int .u64 a0_1, .int .u64 a0_2, .int .i64 a0_3, .int .i64 a0_4, .bool false] (0, 0) _ rfl (ub BK103.out) Try.underlying37 rfl (by kernel_rfl)) rfl ?_
  exact ur (uc HB.out)

def cap_fits.f (a0_0 : Int) (a0_1 : Int) (a0_2 : Int) (a0_3 : Int) (a0_4 : Int) (a0_5 : Bool) (a1 : Int) : Option (Bool) := if a0_2 ≥ a0_0 then (if (IntKind.u64.wrap (a0_2 + a1)) ≥ a0_2 then (some (decide ((IntKind.u64.wrap (a0_2 + a1)) ≤ a0_1))) else (some false)) else (some false)
set_option maxHeartbeats 8000000 in
set_option maxRecDepth 100000 in
theorem cap_fits.calls (a0_0 : Int) (a0_1 : Int) (a0_2 : Int) (a0_3 : Int) (a0_4 : Int) (a0_5 : Bool) (a1 : Int) (r : Bool) (w : World) (h : cap_fits.f a0_0 a0_1 a0_2 a0_3 a0_4 a0_5 a1 = some r) :
  Calls Try.prog 50 #[.agg #[.int .u64 a0_0, .int .u64 a0_1, .int .u64 a0_2, .int .i64 a0_3, .int .i64 a0_4, .bool a0_5], .int .u64 a1] w fun e w' => e = .returned (.bool r) ∧ Below w.heap.size w w' := by
 have hu37 := Try.underlying37
 have HB := am (Below.refl w.heap.size w)
 have H : (if a0_2 ≥ a0_0 then (if (IntKind.u64.wrap (a0_2 + a1)) ≥ a0_2 then (some (decide ((IntKind.u64.wrap (a0_2 + a1)) ≤ a0_1))) else (some false)) else (some false)) = some r := h
 clear h
 by_cases c3 : a0_2 ≥ a0_0
 ·rw [if_pos c3] at H
  have c3b0 : decide (a0_0 ≤ a0_2) = true := decide_eq_true c3
  clear c3
  by_cases c4 : (IntKind.u64.wrap (a0_2 + a1)) ≥ a0_2
  ·rw [if_pos c4] at H
   have c4b0 : decide (a0_2 ≤ (IntKind.u64.wrap (a0_2 + a1))) = true := decide_eq_true c4
   clear c4
   obtain rfl := Option.some.inj H
   go_enter Try.func50, Try.ntmps50
   go_wp2_with (first | ((with_reducible refine gate_dst (N := 2) rfl ?_); refine box_event ?hg (N := 2) ?hd (cs := #[.int .u64 a0_0, .int .u64 a0_1, .int .u64 a0_2, .int .i64 a0_3, .int .i64 a0_4, .bool a0_5]) (t := 37) ?hr ?_; (case hd => rfl); (case hg => rfl); (case hr => first | (go_simp; done) | (go_simp; rfl)); intro gb105 hg w5 hbox hb; have n0_ := bs HB hb; have n1_ := am (hbox); have n2_ := nz HB hg; have n3_ := nz HB hg; revert n0_ n1_ n2_ n3_; clear HB; intro HB BK105 GW105 GE105; clear hb hbox hg; obtain ⟨hcz6_0, hcz6_1, hcz6_2, hcz6_3, hcz6_4, hcz6_5, hfz6_0, hfz6_1, hfz6_2, hfz6_3, hfz6_4, hfz6_5⟩ := cells6 BK105.out))
   go_ret
   exact ur (uc HB.out)
  ·rw [if_neg c4] at H
   have c4b0 : decide (a0_2 ≤ (IntKind.u64.wrap (a0_2 + a1))) = false := decide_eq_false c4
   clear c4
   obtain rfl := Option.some.inj H
   go_enter Try.func50, Try.ntmps50
   go_wp2_with (first | ((with_reducible refine gate_dst (N := 2) rfl ?_); refine box_event ?hg (N := 2) ?hd (cs := #[.int .u64 a0_0, .int .u64 a0_1, .int .u64 a0_2, .int .i64 a0_3, .int .i64 a0_4, .bool a0_5]) (t := 37) ?hr ?_; (case hd => rfl); (case hg => rfl); (case hr => first | (go_simp; done) | (go_simp; rfl)); intro gb105 hg w7 hbox hb; have n0_ := bs HB hb; have n1_ := am (hbox); have n2_ := nz HB hg; have n3_ := nz HB hg; revert n0_ n1_ n2_ n3_; clear HB; intro HB BK105 GW105 GE105; clear hb hbox hg; obtain ⟨hcz8_0, hcz8_1, hcz8_2, hcz8_3, hcz8_4, hcz8_5, hfz8_0, hfz8_1, hfz8_2, hfz8_3, hfz8_4, hfz8_5⟩ := cells6 BK105.out))
   go_ret
   exact ur (uc HB.out)
 ·rw [if_neg c3] at H
  have c3b0 : decide (a0_0 ≤ a0_2) = false := decide_eq_false c3
  clear c3
  obtain rfl := Option.some.inj H
  go_enter Try.func50, Try.ntmps50
  go_wp2_with (first | ((with_reducible refine gate_dst (N := 2) rfl ?_); refine box_event ?hg (N := 2) ?hd (cs := #[.int .u64 a0_0, .int .u64 a0_1, .int .u64 a0_2, .int .i64 a0_3, .int .i64 a0_4, .bool a0_5]) (t := 37) ?hr ?_; (case hd => rfl); (case hg => rfl); (case hr => first | (go_simp; done) | (go_simp; rfl)); intro gb105 hg w9 hbox hb; have n0_ := bs HB hb; have n1_ := am (hbox); have n2_ := nz HB hg; have n3_ := nz HB hg; revert n0_ n1_ n2_ n3_; clear HB; intro HB BK105 GW105 GE105; clear hb hbox hg; obtain ⟨hcz10_0, hcz10_1, hcz10_2, hcz10_3, hcz10_4, hcz10_5, hfz10_0, hfz10_1, hfz10_2, hfz10_3, hfz10_4, hfz10_5⟩ := cells6 BK105.out))
  go_ret
  exact ur (uc HB.out)

def cap_Clear.f (a0_0 : Int) (a0_1 : Int) (a0_2 : Int) (a0_3 : Int) (a0_4 : Int) (a0_5 : Bool) : Option (Int × Int × Int × Int × Int × Bool) := some (a0_0, a0_1, a0_2, a0_3, a0_4, false)
set_option maxHeartbeats 8000000 in
set_option maxRecDepth 100000 in
theorem cap_Clear.calls (a0_0 : Int) (a0_1 : Int) (a0_2 : Int) (a0_3 : Int) (a0_4 : Int) (a0_5 : Bool) (r1 : Int) (r2 : Int) (r3 : Int) (r4 : Int) (r5 : Int) (r6 : Bool) (w : World) (h : cap_Clear.f a0_0 a0_1 a0_2 a0_3 a0_4 a0_5 = some (r1, r2, r3, r4, r5, r6)) :
  Calls Try.prog 51 #[.agg #[.int .u64 a0_0, .int .u64 a0_1, .int .u64 a0_2, .int .i64 a0_3, .int .i64 a0_4, .bool a0_5]] w fun e w' => e = .returned (.agg #[.int .u64 r1, .int .u64 r2, .int .u64 r3, .int .i64 r4, .int .i64 r5, .bool r6]) ∧ Below w.heap.size w w' := by
 have hu37 := Try.underlying37
 have HB := am (Below.refl w.heap.size w)
 have H : (some (a0_0, a0_1, a0_2, a0_3, a0_4, false)) = some (r1, r2, r3, r4, r5, r6) := h
 clear h
 simp only [Option.some.injEq, Prod.mk.injEq] at H
 obtain ⟨rfl, rfl, rfl, rfl, rfl, rfl⟩ := H
 go_enter Try.func51, Try.ntmps51
 go_wp2_with (first | ((with_reducible refine gate_dst (N := 1) rfl ?_); refine box_event ?hg (N := 1) ?hd (cs := #[.int .u64 a0_0, .int .u64 a0_1, .int .u64 a0_2, .int .i64 a0_3, .int .i64 a0_4, .bool a0_5]) (t := 37) ?hr ?_; (case hd => rfl); (case hg => rfl); (case hr => first | (go_simp; done) | (go_simp; rfl)); intro gb106 hg w2 hbox hb; have n0_ := bs HB hb; have n1_ := am (hbox); have n2_ := nz HB hg; have n3_ := nz HB hg; revert n0_ n1_ n2_ n3_; clear HB; intro HB BK106 GW106 GE106; clear hb hbox hg) | ((with_reducible refine gate_dst (N := 2) rfl ?_); refine box_event ?hg (N := 2) ?hd (cs := #[.int .u64 0, .int .u64 0, .int .u64 0, .int .i64 0, .int .i64 0, .bool false]) (t := 37) ?hr ?_; (case hd => rfl); (case hg => rfl); (case hr => first | (go_simp; done) | (go_simp; rfl)); intro gb107 hg w3 hbox hb; have n0_ := bw BK106 hb; have n1_ := bs HB hb; have n2_ := am (hbox); have n3_ := nz HB hg; have n4_ := nz HB hg; have n5_ := nl BK106 hg; have n6_ := nr BK106 hg; revert n0_ n1_ n2_ n3_ n4_ n5_ n6_; clear BK106 HB; intro BK106 HB BK107 GW107 GE107 NB106_107 NB107_106; clear hb hbox hg; have hnb4 := NB106_107.out; have hnc4 := NB107_106.out; obtain ⟨hcz5_0, hcz5_1, hcz5_2, hcz5_3, hcz5_4, hcz5_5, hfz5_0, hfz5_1, hfz5_2, hfz5_3, hfz5_4, hfz5_5⟩ := cells6 BK106.out; obtain ⟨hcz6_0, hcz6_1, hcz6_2, hcz6_3, hcz6_4, hcz6_5, hfz6_0, hfz6_1, hfz6_2, hfz6_3, hfz6_4, hfz6_5⟩ := cells6 BK107.out) | ((with_reducible refine gate_store (t := 37) (p := 2) rfl ?_); refine store_event (t := 37) (p := 2) (v := ?vo_w7) (w1 := (((((((w3.setCell ⟨gb106, 5, none⟩ (.bool false)).setCell ⟨gb107, 0, none⟩ (.int .u64 a0_0)).setCell ⟨gb107, 1, none⟩ (.int .u64 a0_1)).setCell ⟨gb107, 2, none⟩ (.int .u64 a0_2)).setCell ⟨gb107, 3, none⟩ (.int .i64 a0_3)).setCell ⟨gb107, 4, none⟩ (.int .i64 a0_4)).setCell ⟨gb107, 5, none⟩ (.bool false))) ?hg ?ho ?hn ?hr ?_; (case ho => rfl); (case hg => rfl); (case hn => rfl); (case hr => first | (go_simp; done) | (go_simp; rfl)); intro w7 hw; have n0_ : Aside0 (w7.heap[gb106]? = some (.cells #[.int .u64 a0_0, .int .u64 a0_1, .int .u64 a0_2, .int .i64 a0_3, .int .i64 a0_4, .bool false] 37 (0, 0))) := ⟨(by rw [hw]; exact (by (iterate 6 ((with_reducible repeat (first | refine blk_drewN ?_ _ | refine blk_drew ?_ | refine blk_alloc ?_ _)); refine blk_far ?_ NB106_107.out _)); (with_reducible repeat (first | refine blk_drewN ?_ _ | refine blk_drew ?_ | refine blk_alloc ?_ _)); refine blk_put (cs := #[.int .u64 a0_0, .int .u64 a0_1, .int .u64 a0_2, .int .i64 a0_3, .int .i64 a0_4, .bool a0_5]) ?_ 5 _ rfl; (with_reducible repeat (first | refine blk_drewN ?_ _ | refine blk_drew ?_ | refine blk_alloc ?_ _)); exact BK106.out))⟩; have n1_ : Aside0 (w7.heap[gb107]? = some (.cells #[.int .u64 a0_0, .int .u64 a0_1, .int .u64 a0_2, .int .i64 a0_3, .int .i64 a0_4, .bool false] 37 (0, 0))) := ⟨(by rw [hw]; exact (by (with_reducible repeat (first | refine blk_drewN ?_ _ | refine blk_drew ?_ | refine blk_alloc ?_ _)); refine blk_put (cs := #[.int .u64 a0_0, .int .u64 a0_1, .int .u64 a0_2, .int .i64 a0_3, .int .i64 a0_4, .bool false]) ?_ 5 _ rfl; (with_reducible repeat (first | refine blk_drewN ?_ _ | refine blk_drew ?_ | refine blk_alloc ?_ _)); refine blk_put (cs := #[.int .u64 a0_0, .int .u64 a0_1, .int .u64 a0_2, .int .i64 a0_3, .int .i64 0, .bool false]) ?_ 4 _ rfl; (with_reducible repeat (first | refine blk_drewN ?_ _ | refine blk_drew ?_ | refine blk_alloc ?_ _)); refine blk_put (cs := #[.int .u64 a0_0, .int .u64 a0_1, .int .u64 a0_2, .int .i64 0, .int .i64 0, .bool false]) ?_ 3 _ rfl; (with_reducible repeat (first | refine blk_drewN ?_ _ | refine blk_drew ?_ | refine blk_alloc ?_ _)); refine blk_put (cs := #[.int .u64 a0_0, .int .u64 a0_1, .int .u64 0, .int .i64 0, .int .i64 0, .bool false]) ?_ 2 _ rfl; (with_reducible repeat (first | refine blk_drewN ?_ _ | refine blk_drew ?_ | refine blk_alloc ?_ _)); refine blk_put (cs := #[.int .u64 a0_0, .int .u64 0, .int .u64 0, .int .i64 0, .int .i64 0, .bool false]) ?_ 1 _ rfl; (with_reducible repeat (first | refine blk_drewN ?_ _ | refine blk_drew ?_ | refine blk_alloc ?_ _)); refine blk_put (cs := #[.int .u64 0, .int .u64 0, .int .u64 0, .int .i64 0, .int .i64 0, .bool false]) ?_ 0 _ rfl; (with_reducible repeat (first | refine blk_drewN ?_ _ | refine blk_drew ?_ | refine blk_alloc ?_ _)); refine blk_far ?_ NB107_106.out _; (with_reducible repeat (first | refine blk_drewN ?_ _ | refine blk_drew ?_ | refine blk_alloc ?_ _)); exact BK107.out))⟩; have n2_ : Aside0 (Below w.heap.size w w7) := ⟨(by rw [hw]; exact (uc HB.out))⟩; revert n0_ n1_ n2_; clear hw BK106 BK107 HB; intro BK106 BK107 HB))
 refine bodyPost_ret (results_cell_row rfl _ _ gb107 37 #[.int .u64 a0_0, .int .u64 a0_1, .int .u64 a0_2, .int .i64 a0_3, .int .i64 a0_4, .bool false] (0, 0) _ rfl (ub BK107.out) Try.underlying37 rfl (by kernel_rfl)) rfl ?_
 exact ur (uc HB.out)

def cap_Bound.f (a0_0 : Int) (a0_1 : Int) (a0_2 : Int) (a0_3 : Int) (a0_4 : Int) (a0_5 : Bool) (a1 : Int) : Option (Int × Int × Int × Int × Int × Bool) := (cap_open.f a0_0 a0_1 a0_2 a0_3 a0_4 a0_5).bind fun bt110 => (if (!(bt110.1 == a0_0) || (!(bt110.2.1 == a0_1) || (!(bt110.2.2.1 == a0_2) || (!(bt110.2.2.2.1 == a0_3) || (!(bt110.2.2.2.2.1 == a0_4) || (!(bt110.2.2.2.2.2 == a0_5))))))) = true then ((cap_Clear.f a0_0 a0_1 a0_2 a0_3 a0_4 a0_5).bind fun bt116 => (some (bt116.1, bt116.2.1, bt116.2.2.1, bt116.2.2.2.1, bt116.2.2.2.2.1, bt116.2.2.2.2.2))) else (if a0_5 = true then ((cap_fits.f a0_0 a0_1 a0_2 a0_3 a0_4 a0_5 a1).bind fun t122 => (if t122 = true then (some (a0_2, IntKind.u64.wrap (a0_2 + a1), a0_2, a0_3, a0_4, a0_5)) else ((cap_Clear.f a0_0 a0_1 a0_2 a0_3 a0_4 a0_5).bind fun bt123 => (some (bt123.1, bt123.2.1, bt123.2.2.1, bt123.2.2.2.1, bt123.2.2.2.2.1, bt123.2.2.2.2.2))))) else ((cap_Clear.f a0_0 a0_1 a0_2 a0_3 a0_4 a0_5).bind fun bt129 => (some (bt129.1, bt129.2.1, bt129.2.2.1, bt129.2.2.2.1, bt129.2.2.2.2.1, bt129.2.2.2.2.2)))))
def cap_Bound.T1 : Bool × List (List Nat × List Nat) := (true, [([], []), ([0], [0]), ([], []), ([1, 2], [1, 2]), ([3, 1], [3]), ([4], [4]), ([5, 4], [4, 5]), ([6, 4], [4, 6]), ([4, 7], [4, 7]), ([8, 4], [8]), ([9], [9]), ([9], [9]), ([10, 11, 9, 9], [9, 10, 11]), ([12, 9], [9, 12]), ([9, 13], [9, 13])])
def cap_Bound.B1 : List Nat := [0, 1, 0, 7, 15, 31, 63, 127, 255, 511, 1023, 1023, 4095, 8191, 16383]
theorem cap_Bound.tab1 : rtab .any (opsOf Try.f25 1) = cap_Bound.T1 := by kernel_rfl
theorem cap_Bound.bits1 : waitsOk cap_Bound.T1.2 cap_Bound.B1 = true := by kernel_rfl
set_option maxHeartbeats 8000000 in
set_option maxRecDepth 100000 in
theorem cap_Bound.calls (a0_0 : Int) (a0_1 : Int) (a0_2 : Int) (a0_3 : Int) (a0_4 : Int) (a0_5 : Bool) (a1 : Int) (r1 : Int) (r2 : Int) (r3 : Int) (r4 : Int) (r5 : Int) (r6 : Bool) (w : World) (h : cap_Bound.f a0_0 a0_1 a0_2 a0_3 a0_4 a0_5 a1 = some (r1, r2, r3, r4, r5, r6)) :
  Calls Try.prog 25 #[.agg #[.int .u64 a0_0, .int .u64 a0_1, .int .u64 a0_2, .int .i64 a0_3, .int .i64 a0_4, .bool a0_5], .int .u64 a1] w fun e w' => e = .returned (.agg #[.int .u64 r1, .int .u64 r2, .int .u64 r3, .int .i64 r4, .int .i64 r5, .bool r6]) ∧ Below w.heap.size w w' := by
 have hu37 := Try.underlying37
 have HB := am (Below.refl w.heap.size w)
 have H : ((cap_open.f a0_0 a0_1 a0_2 a0_3 a0_4 a0_5).bind fun bt110 => (if (!(bt110.1 == a0_0) || (!(bt110.2.1 == a0_1) || (!(bt110.2.2.1 == a0_2) || (!(bt110.2.2.2.1 == a0_3) || (!(bt110.2.2.2.2.1 == a0_4) || (!(bt110.2.2.2.2.2 == a0_5))))))) = true then ((cap_Clear.f a0_0 a0_1 a0_2 a0_3 a0_4 a0_5).bind fun bt116 => (some (bt116.1, bt116.2.1, bt116.2.2.1, bt116.2.2.2.1, bt116.2.2.2.2.1, bt116.2.2.2.2.2))) else (if a0_5 = true then ((cap_fits.f a0_0 a0_1 a0_2 a0_3 a0_4 a0_5 a1).bind fun t122 => (if t122 = true then (some (a0_2, IntKind.u64.wrap (a0_2 + a1), a0_2, a0_3, a0_4, a0_5)) else ((cap_Clear.f a0_0 a0_1 a0_2 a0_3 a0_4 a0_5).bind fun bt123 => (some (bt123.1, bt123.2.1, bt123.2.2.1, bt123.2.2.2.1, bt123.2.2.2.2.1, bt123.2.2.2.2.2))))) else ((cap_Clear.f a0_0 a0_1 a0_2 a0_3 a0_4 a0_5).bind fun bt129 => (some (bt129.1, bt129.2.1, bt129.2.2.1, bt129.2.2.2.1, bt129.2.2.2.2.1, bt129.2.2.2.2.2)))))) = some (r1, r2, r3, r4, r5, r6) := h
 clear h
 replace H := Option.bind_eq_some_iff.mp H
 obtain ⟨⟨t110, t111, t112, t113, t114, t115⟩, A30, H⟩ := H
 replace H : (if (!(t110 == a0_0) || (!(t111 == a0_1) || (!(t112 == a0_2) || (!(t113 == a0_3) || (!(t114 == a0_4) || (!(t115 == a0_5))))))) = true then ((cap_Clear.f a0_0 a0_1 a0_2 a0_3 a0_4 a0_5).bind fun bt116 => (some (bt116.1, bt116.2.1, bt116.2.2.1, bt116.2.2.2.1, bt116.2.2.2.2.1, bt116.2.2.2.2.2))) else (if a0_5 = true then ((cap_fits.f a0_0 a0_1 a0_2 a0_3 a0_4 a0_5 a1).bind fun t122 => (if t122 = true then (some (a0_2, IntKind.u64.wrap (a0_2 + a1), a0_2, a0_3, a0_4, a0_5)) else ((cap_Clear.f a0_0 a0_1 a0_2 a0_3 a0_4 a0_5).bind fun bt123 => (some (bt123.1, bt123.2.1, bt123.2.2.1, bt123.2.2.2.1, bt123.2.2.2.2.1, bt123.2.2.2.2.2))))) else ((cap_Clear.f a0_0 a0_1 a0_2 a0_3 a0_4 a0_5).bind fun bt129 => (some (bt129.1, bt129.2.1, bt129.2.2.1, bt129.2.2.2.1, bt129.2.2.2.2.1, bt129.2.2.2.2.2))))) = some (r1, r2, r3, r4, r5, r6) := H
 have A3 := am A30
 clear A30
 by_cases c4 : (!(t110 == a0_0) || (!(t111 == a0_1) || (!(t112 == a0_2) || (!(t113 == a0_3) || (!(t114 == a0_4) || (!(t115 == a0_5))))))) = true
 ·rw [if_pos c4] at H
  have c4b0 : (!(t110 == a0_0) || (!(t111 == a0_1) || (!(t112 == a0_2) || (!(t113 == a0_3) || (!(t114 == a0_4) || (!(t115 == a0_5))))))) = true := c4
  clear c4
  replace H := Option.bind_eq_some_iff.mp H
  obtain ⟨⟨t116, t117, t118, t119, t120, t121⟩, A50, H⟩ := H
  replace H : (some (t116, t117, t118, t119, t120, t121)) = some (r1, r2, r3, r4, r5, r6) := H
  have A5 := am A50
  clear A50
  simp only [Option.some.injEq, Prod.mk.injEq] at H
  obtain ⟨rfl, rfl, rfl, rfl, rfl, rfl⟩ := H
  go_enter Try.func25, Try.ntmps25
  try go_wp2_with (first | ((with_reducible refine gate_dst (N := 2) rfl ?_); refine box_event ?hg (N := 2) ?hd (cs := #[.int .u64 a0_0, .int .u64 a0_1, .int .u64 a0_2, .int .i64 a0_3, .int .i64 a0_4, .bool a0_5]) (t := 37) ?hr ?_; (case hd => rfl); (case hg => rfl); (case hr => first | (go_simp; done) | (go_simp; rfl)); intro gb108 hg w6 hbox hb; have n0_ := bs HB hb; have n1_ := am (hbox); have n2_ := nz HB hg; have n3_ := nz HB hg; revert n0_ n1_ n2_ n3_; clear HB; intro HB BK108 GW108 GE108; clear hb hbox hg) | ((with_reducible refine gate_dst (N := 4) rfl ?_); refine box_event ?hg (N := 4) ?hd (cs := #[.int .u64 0, .int .u64 0, .int .u64 0, .int .i64 0, .int .i64 0, .bool false]) (t := 37) ?hr ?_; (case hd => rfl); (case hg => rfl); (case hr => first | (go_simp; done) | (go_simp; rfl)); intro gb109 hg w7 hbox hb; have n0_ := bw BK108 hb; have n1_ := bs HB hb; have n2_ := am (hbox); have n3_ := nz HB hg; have n4_ := nz HB hg; have n5_ := nl BK108 hg; have n6_ := nr BK108 hg; revert n0_ n1_ n2_ n3_ n4_ n5_ n6_; clear BK108 HB; intro BK108 HB BK109 GW109 GE109 NB108_109 NB109_108; clear hb hbox hg))
  have n0_ := am (blk_drew BK108.out)
  have n1_ := am (blk_drew BK109.out)
  have n2_ := am (below_drew1 HB.out)
  revert n0_ n1_ n2_
  clear BK108 BK109 HB
  intro BK108 BK109 HB
  refine sr 15 [] (hE6 BK108) (fun hHeld => ?_); refine with_tabW cap_Bound.tab1 cap_Bound.bits1 (fun HT_ HW_ => ?_)
  generalize w7.drew = w8 at BK108 BK109 HB hHeld ⊢
  refine tv 0 5 (bA 15 1) HT_ HW_ hHeld ?_ (hy := by rintro w' ⟨s0, s1, s2, s3, s4, s5⟩; go_simp; with_reducible rfl)
  refine tv 2 7 (bA 15 5) HT_ HW_ hHeld ?_ (hy := by rintro w' ⟨s0, s1, s2, s3, s4, s5⟩; go_simp; with_reducible rfl)
  refine one_ (i := 1) (N := some 6) (bA 15 7) rfl rfl (one_of HT_.out (by kernel_rfl)) (by decide) (fun K hK => ?_)
  refine goes_ Try.func49 (by kernel_rfl) rfl #[.agg #[.int .u64 a0_0, .int .u64 a0_1, .int .u64 a0_2, .int .i64 a0_3, .int .i64 a0_4, .bool a0_5]] (by rfl) rfl rfl (by (try simp only [List.map_toArray, List.map_cons, List.map_nil]); first | done | rfl | (simp only [List.length_drop, List.length_take]; rfl)) ?_
  with_reducible refine (cap_open.calls a0_0 a0_1 a0_2 a0_3 a0_4 a0_5 t110 t111 t112 t113 t114 t115 _ A3.out).mono ?_
  rintro e w9 ⟨rfl, hb⟩
  refine ⟨_, rfl, ?_⟩
  have n0_ := bw BK108 hb
  have n1_ := bw BK109 hb
  have n2_ := bs HB hb
  revert n0_ n1_ n2_
  clear BK108 BK109 HB
  intro BK108 BK109 HB
  (try clear hb)
  (try clear hb2)
  (try clear hk)
  (try clear hi)
  refine hK.out _ _ ⟨cz BK108 0, cz BK108 1, cz BK108 2, cz BK108 3, cz BK108 4, cz BK108 5⟩ (fun hHeld => ?_)
  clear hK K
  refine norm_ (a' := ?_) ?_ ?_
  rotate_left
  ·show Act.put _ (some 6) _ = _
   simp only [Act.put, List.setIfInBounds_toArray, List.set_cons_zero, List.set_cons_succ, i64_w, i32_w]
   rfl
  refine pure_ (i := 3) (N := some 8) (v := ?_) (a' := ?_) (bA 15 15) rfl rfl (any_of HT_.out (by kernel_rfl)) (fun _ _ _ h => h) (Or.inl ⟨by rfl, ?_⟩) ?_ ?_
  rotate_left
  ·intro w'
   go_simp
   first | (rw [c4b0]; done) | (rw [c4b0]; with_reducible rfl) | (have h_ := c4b0; simp only [beq_true, beq_false, Bool.not_not] at h_; rw [h_]; done) | (have h_ := c4b0; simp only [beq_true, beq_false, Bool.not_not] at h_; rw [h_]; with_reducible rfl) | (with_reducible rfl)
  rotate_left
  ·simp only [Act.put, List.setIfInBounds_toArray, List.set_cons_zero, List.set_cons_succ, i64_w, i32_w]
   rfl
  refine pv 4 9 (bA 15 31) HT_ ?_
  refine pn 5 10 (bA 15 63) HT_ ?_ ?_ ?_; rotate_left; (simp only [Act.put, s1, s2, s3, i64_w, i32_w]; rfl)
  refine pn 6 11 (bA 15 127) HT_ ?_ ?_ ?_; rotate_left; (simp only [Act.put, s1, s2, s3, i64_w, i32_w]; rfl)
  refine pn 7 12 (bA 15 255) HT_ ?_ ?_ ?_; rotate_left; (simp only [Act.put, s1, s2, s3, i64_w, i32_w]; rfl)
  refine pv 8 13 (bA 15 511) HT_ ?_
  refine pv 9 14 (bA 15 1023) HT_ ?_
  refine pn 10 15 (bA 15 2047) HT_ ?_ ?_ ?_; rotate_left; (simp only [Act.put, s1, s2, s3, i64_w, i32_w]; rfl)
  refine pn 11 16 (bA 15 4095) HT_ ?_ ?_ ?_; rotate_left; (simp only [Act.put, s1, s2, s3, i64_w, i32_w]; rfl)
  refine pn 12 17 (bA 15 8191) HT_ ?_ ?_ ?_; rotate_left; (simp only [Act.put, s1, s2, s3, i64_w, i32_w]; rfl)
  refine pn 13 18 (bA 15 16383) HT_ ?_ ?_ ?_; rotate_left; (simp only [Act.put, s1, s2, s3, i64_w, i32_w]; rfl)
  refine pv 14 19 (bA 15 32767) HT_ ?_
  refine done_ (done_of HT_.out (by kernel_rfl)) ?_
  have hnb10 := NB108_109.out
  have hnc10 := NB109_108.out
  obtain ⟨hcz11_0, hcz11_1, hcz11_2, hcz11_3, hcz11_4, hcz11_5, hfz11_0, hfz11_1, hfz11_2, hfz11_3, hfz11_4, hfz11_5⟩ := cl6 BK108
  try go_wp2_with (first | ((with_reducible refine gate_dst (N := 21) rfl ?_); (with_reducible refine gate_callee (f := 51) rfl ?_); refine gl (some 21) Try.func51 #[.agg #[.int .u64 a0_0, .int .u64 a0_1, .int .u64 a0_2, .int .i64 a0_3, .int .i64 a0_4, .bool a0_5]] ?_; (with_reducible refine (cap_Clear.calls a0_0 a0_1 a0_2 a0_3 a0_4 a0_5 t116 t117 t118 t119 t120 t121 _ A5.out).mono ?_); rintro e w12 ⟨rfl, hb⟩; refine ⟨_, rfl, ?_⟩; have n0_ := bw BK108 hb; have n1_ := bw BK109 hb; have n2_ := bs HB hb; revert n0_ n1_ n2_; clear BK108 BK109 HB; intro BK108 BK109 HB; (try clear hb); obtain ⟨hcz13_0, hcz13_1, hcz13_2, hcz13_3, hcz13_4, hcz13_5, hfz13_0, hfz13_1, hfz13_2, hfz13_3, hfz13_4, hfz13_5⟩ := cells6 BK109.out) | ((with_reducible refine gate_store (t := 37) (p := 4) rfl ?_); refine store_event (t := 37) (p := 4) (v := ?vo_w14) (w1 := ((((((w12.setCell ⟨gb109, 0, none⟩ (.int .u64 t116)).setCell ⟨gb109, 1, none⟩ (.int .u64 t117)).setCell ⟨gb109, 2, none⟩ (.int .u64 t118)).setCell ⟨gb109, 3, none⟩ (.int .i64 t119)).setCell ⟨gb109, 4, none⟩ (.int .i64 t120)).setCell ⟨gb109, 5, none⟩ (.bool t121))) ?hg ?ho ?hn ?hr ?_; (case ho => rfl); (case hg => rfl); (case hn => rfl); (case hr => first | (go_simp; done) | (go_simp; rfl)); intro w14 hw; have n0_ := bf6 hw NB108_109 BK108; have n1_ := bp6 #[.int .u64 t116, .int .u64 t117, .int .u64 t118, .int .i64 t119, .int .i64 t120, .bool t121] hw BK109; have n2_ : Aside0 (Below w.heap.size w w14) := ⟨(by rw [hw]; exact (uc HB.out))⟩; revert n0_ n1_ n2_; clear hw BK108 BK109 HB; intro BK108 BK109 HB))
  refine bodyPost_ret (results_cell_row rfl _ _ gb109 37 #[.int .u64 t116, .int .u64 t117, .int .u64 t118, .int .i64 t119, .int .i64 t120, .bool t121] (0, 0) _ rfl (ub BK109.out) Try.underlying37 rfl (by kernel_rfl)) rfl ?_
  exact ur (uc HB.out)
 ·rw [if_neg c4] at H
  have c4b0 : (!(t110 == a0_0) || (!(t111 == a0_1) || (!(t112 == a0_2) || (!(t113 == a0_3) || (!(t114 == a0_4) || (!(t115 == a0_5))))))) = false := by simpa using c4
  clear c4
  by_cases c15 : a0_5 = true
  ·subst c15
   have H1 : ((cap_fits.f a0_0 a0_1 a0_2 a0_3 a0_4 true a1).bind fun t122 => (if t122 = true then (some (a0_2, IntKind.u64.wrap (a0_2 + a1), a0_2, a0_3, a0_4, true)) else ((cap_Clear.f a0_0 a0_1 a0_2 a0_3 a0_4 true).bind fun bt123 => (some (bt123.1, bt123.2.1, bt123.2.2.1, bt123.2.2.2.1, bt123.2.2.2.2.1, bt123.2.2.2.2.2))))) = some (r1, r2, r3, r4, r5, r6) := by rw [if_pos rfl] at H; exact H
   clear H
   have H := H1
   clear H1
   replace H := Option.bind_eq_some_iff.mp H
   obtain ⟨t122, A160, H⟩ := H
   replace H : (if t122 = true then (some (a0_2, IntKind.u64.wrap (a0_2 + a1), a0_2, a0_3, a0_4, true)) else ((cap_Clear.f a0_0 a0_1 a0_2 a0_3 a0_4 true).bind fun bt123 => (some (bt123.1, bt123.2.1, bt123.2.2.1, bt123.2.2.2.1, bt123.2.2.2.2.1, bt123.2.2.2.2.2)))) = some (r1, r2, r3, r4, r5, r6) := H
   have A16 := am A160
   clear A160
   by_cases c17 : t122 = true
   ·subst c17
    have H1 : (some (a0_2, IntKind.u64.wrap (a0_2 + a1), a0_2, a0_3, a0_4, true)) = some (r1, r2, r3, r4, r5, r6) := by rw [if_pos rfl] at H; exact H
    clear H
    have H := H1
    clear H1
    simp only [Option.some.injEq, Prod.mk.injEq] at H
    obtain ⟨rfl, rfl, rfl, rfl, rfl, rfl⟩ := H
    go_enter Try.func25, Try.ntmps25
    try go_wp2_with (first | ((with_reducible refine gate_dst (N := 2) rfl ?_); refine box_event ?hg (N := 2) ?hd (cs := #[.int .u64 a0_0, .int .u64 a0_1, .int .u64 a0_2, .int .i64 a0_3, .int .i64 a0_4, .bool true]) (t := 37) ?hr ?_; (case hd => rfl); (case hg => rfl); (case hr => first | (go_simp; done) | (go_simp; rfl)); intro gb108 hg w18 hbox hb; have n0_ := bs HB hb; have n1_ := am (hbox); have n2_ := nz HB hg; have n3_ := nz HB hg; revert n0_ n1_ n2_ n3_; clear HB; intro HB BK108 GW108 GE108; clear hb hbox hg) | ((with_reducible refine gate_dst (N := 4) rfl ?_); refine box_event ?hg (N := 4) ?hd (cs := #[.int .u64 0, .int .u64 0, .int .u64 0, .int .i64 0, .int .i64 0, .bool false]) (t := 37) ?hr ?_; (case hd => rfl); (case hg => rfl); (case hr => first | (go_simp; done) | (go_simp; rfl)); intro gb109 hg w19 hbox hb; have n0_ := bw BK108 hb; have n1_ := bs HB hb; have n2_ := am (hbox); have n3_ := nz HB hg; have n4_ := nz HB hg; have n5_ := nl BK108 hg; have n6_ := nr BK108 hg; revert n0_ n1_ n2_ n3_ n4_ n5_ n6_; clear BK108 HB; intro BK108 HB BK109 GW109 GE109 NB108_109 NB109_108; clear hb hbox hg))
    have n0_ := am (blk_drew BK108.out)
    have n1_ := am (blk_drew BK109.out)
    have n2_ := am (below_drew1 HB.out)
    revert n0_ n1_ n2_
    clear BK108 BK109 HB
    intro BK108 BK109 HB
    refine sr 15 [] (hE6 BK108) (fun hHeld => ?_); refine with_tabW cap_Bound.tab1 cap_Bound.bits1 (fun HT_ HW_ => ?_)
    generalize w19.drew = w20 at BK108 BK109 HB hHeld ⊢
    refine tv 0 5 (bA 15 1) HT_ HW_ hHeld ?_ (hy := by rintro w' ⟨s0, s1, s2, s3, s4, s5⟩; go_simp; with_reducible rfl)
    refine tv 2 7 (bA 15 5) HT_ HW_ hHeld ?_ (hy := by rintro w' ⟨s0, s1, s2, s3, s4, s5⟩; go_simp; with_reducible rfl)
    refine one_ (i := 1) (N := some 6) (bA 15 7) rfl rfl (one_of HT_.out (by kernel_rfl)) (by decide) (fun K hK => ?_)
    refine goes_ Try.func49 (by kernel_rfl) rfl #[.agg #[.int .u64 a0_0, .int .u64 a0_1, .int .u64 a0_2, .int .i64 a0_3, .int .i64 a0_4, .bool true]] (by rfl) rfl rfl (by (try simp only [List.map_toArray, List.map_cons, List.map_nil]); first | done | rfl | (simp only [List.length_drop, List.length_take]; rfl)) ?_
    with_reducible refine (cap_open.calls a0_0 a0_1 a0_2 a0_3 a0_4 true t110 t111 t112 t113 t114 t115 _ A3.out).mono ?_
    rintro e w21 ⟨rfl, hb⟩
    refine ⟨_, rfl, ?_⟩
    have n0_ := bw BK108 hb
    have n1_ := bw BK109 hb
    have n2_ := bs HB hb
    revert n0_ n1_ n2_
    clear BK108 BK109 HB
    intro BK108 BK109 HB
    (try clear hb)
    (try clear hb2)
    (try clear hk)
    (try clear hi)
    refine hK.out _ _ ⟨cz BK108 0, cz BK108 1, cz BK108 2, cz BK108 3, cz BK108 4, cz BK108 5⟩ (fun hHeld => ?_)
    clear hK K
    refine norm_ (a' := ?_) ?_ ?_
    rotate_left
    ·show Act.put _ (some 6) _ = _
     simp only [Act.put, List.setIfInBounds_toArray, List.set_cons_zero, List.set_cons_succ, i64_w, i32_w]
     rfl
    refine pure_ (i := 3) (N := some 8) (v := ?_) (a' := ?_) (bA 15 15) rfl rfl (any_of HT_.out (by kernel_rfl)) (fun _ _ _ h => h) (Or.inl ⟨by rfl, ?_⟩) ?_ ?_
    rotate_left
    ·intro w'
     go_simp
     first | (rw [c4b0]; done) | (rw [c4b0]; with_reducible rfl) | (have h_ := c4b0; simp only [beq_true, beq_false, Bool.not_not] at h_; rw [h_]; done) | (have h_ := c4b0; simp only [beq_true, beq_false, Bool.not_not] at h_; rw [h_]; with_reducible rfl) | (with_reducible rfl)
    rotate_left
    ·simp only [Act.put, List.setIfInBounds_toArray, List.set_cons_zero, List.set_cons_succ, i64_w, i32_w]
     rfl
    refine pv 4 9 (bA 15 31) HT_ ?_
    refine pv 5 10 (bA 15 63) HT_ ?_
    refine tv 6 11 (bA 15 127) HT_ HW_ hHeld ?_ (hy := by rintro w' ⟨s0, s1, s2, s3, s4, s5⟩; go_simp; with_reducible rfl)
    refine pv 7 12 (bA 15 255) HT_ ?_
    refine pv 8 13 (bA 15 511) HT_ ?_
    refine pv 9 14 (bA 15 1023) HT_ ?_
    refine pv 11 16 (bA 15 3071) HT_ ?_
    refine tv 10 15 (bA 15 4095) HT_ HW_ hHeld ?_ (hy := by rintro w' ⟨s0, s1, s2, s3, s4, s5⟩; go_simp; with_reducible rfl)
    refine one_ (i := 12) (N := some 17) (bA 15 8191) rfl rfl (one_of HT_.out (by kernel_rfl)) (by decide) (fun K hK => ?_)
    refine goes_ Try.func50 (by kernel_rfl) rfl #[.agg #[.int .u64 a0_0, .int .u64 a0_1, .int .u64 a0_2, .int .i64 a0_3, .int .i64 a0_4, .bool true], .int .u64 a1] (by rfl) rfl rfl (by (try simp only [List.map_toArray, List.map_cons, List.map_nil]); first | done | rfl | (simp only [List.length_drop, List.length_take]; rfl)) ?_
    with_reducible refine (cap_fits.calls a0_0 a0_1 a0_2 a0_3 a0_4 true a1 true _ A16.out).mono ?_
    rintro e w22 ⟨rfl, hb⟩
    refine ⟨_, rfl, ?_⟩
    have n0_ := bw BK108 hb
    have n1_ := bw BK109 hb
    have n2_ := bs HB hb
    revert n0_ n1_ n2_
    clear BK108 BK109 HB
    intro BK108 BK109 HB
    (try clear hb)
    (try clear hb2)
    (try clear hk)
    (try clear hi)
    refine hK.out _ _ ⟨cz BK108 0, cz BK108 1, cz BK108 2, cz BK108 3, cz BK108 4, cz BK108 5⟩ (fun hHeld => ?_)
    clear hK K
    refine norm_ (a' := ?_) ?_ ?_
    rotate_left
    ·show Act.put _ (some 17) _ = _
     simp only [Act.put, List.setIfInBounds_toArray, List.set_cons_zero, List.set_cons_succ, i64_w, i32_w]
     rfl
    refine pv 13 18 (bA 15 16383) HT_ ?_
    refine pv 14 19 (bA 15 32767) HT_ ?_
    refine done_ (done_of HT_.out (by kernel_rfl)) ?_
    have hnb23 := NB108_109.out
    have hnc23 := NB109_108.out
    obtain ⟨hcz24_0, hcz24_1, hcz24_2, hcz24_3, hcz24_4, hcz24_5, hfz24_0, hfz24_1, hfz24_2, hfz24_3, hfz24_4, hfz24_5⟩ := cl6 BK108
    obtain ⟨hcz25_0, hcz25_1, hcz25_2, hcz25_3, hcz25_4, hcz25_5, hfz25_0, hfz25_1, hfz25_2, hfz25_3, hfz25_4, hfz25_5⟩ := cl6 BK109
    try go_wp2_with (first | ((with_reducible refine gate_store (t := 37) (p := 4) rfl ?_); refine store_event (t := 37) (p := 4) (v := ?vo_w26) (w1 := ((((((((w22.setCell ⟨gb108, 0, none⟩ (.int .u64 a0_2)).setCell ⟨gb108, 1, none⟩ (.int .u64 (IntKind.u64.wrap (a0_2 + a1)))).setCell ⟨gb109, 0, none⟩ (.int .u64 a0_2)).setCell ⟨gb109, 1, none⟩ (.int .u64 (IntKind.u64.wrap (a0_2 + a1)))).setCell ⟨gb109, 2, none⟩ (.int .u64 a0_2)).setCell ⟨gb109, 3, none⟩ (.int .i64 a0_3)).setCell ⟨gb109, 4, none⟩ (.int .i64 a0_4)).setCell ⟨gb109, 5, none⟩ (.bool true))) ?hg ?ho ?hn ?hr ?_; (case ho => rfl); (case hg => rfl); (case hn => rfl); (case hr => first | (go_simp; done) | (go_simp; rfl)); intro w26 hw; have n0_ : Aside0 (w26.heap[gb108]? = some (.cells #[.int .u64 a0_2, .int .u64 (IntKind.u64.wrap (a0_2 + a1)), .int .u64 a0_2, .int .i64 a0_3, .int .i64 a0_4, .bool true] 37 (0, 0))) := ⟨(by rw [hw]; exact (by (iterate 6 ((with_reducible repeat (first | refine blk_drewN ?_ _ | refine blk_drew ?_ | refine blk_alloc ?_ _)); refine blk_far ?_ NB108_109.out _)); (with_reducible repeat (first | refine blk_drewN ?_ _ | refine blk_drew ?_ | refine blk_alloc ?_ _)); refine blk_put (cs := #[.int .u64 a0_2, .int .u64 a0_1, .int .u64 a0_2, .int .i64 a0_3, .int .i64 a0_4, .bool true]) ?_ 1 _ rfl; (with_reducible repeat (first | refine blk_drewN ?_ _ | refine blk_drew ?_ | refine blk_alloc ?_ _)); refine blk_put (cs := #[.int .u64 a0_0, .int .u64 a0_1, .int .u64 a0_2, .int .i64 a0_3, .int .i64 a0_4, .bool true]) ?_ 0 _ rfl; (with_reducible repeat (first | refine blk_drewN ?_ _ | refine blk_drew ?_ | refine blk_alloc ?_ _)); exact BK108.out))⟩; have n1_ : Aside0 (w26.heap[gb109]? = some (.cells #[.int .u64 a0_2, .int .u64 (IntKind.u64.wrap (a0_2 + a1)), .int .u64 a0_2, .int .i64 a0_3, .int .i64 a0_4, .bool true] 37 (0, 0))) := ⟨(by rw [hw]; exact (by (with_reducible repeat (first | refine blk_drewN ?_ _ | refine blk_drew ?_ | refine blk_alloc ?_ _)); refine blk_put (cs := #[.int .u64 a0_2, .int .u64 (IntKind.u64.wrap (a0_2 + a1)), .int .u64 a0_2, .int .i64 a0_3, .int .i64 a0_4, .bool false]) ?_ 5 _ rfl; (with_reducible repeat (first | refine blk_drewN ?_ _ | refine blk_drew ?_ | refine blk_alloc ?_ _)); refine blk_put (cs := #[.int .u64 a0_2, .int .u64 (IntKind.u64.wrap (a0_2 + a1)), .int .u64 a0_2, .int .i64 a0_3, .int .i64 0, .bool false]) ?_ 4 _ rfl; (with_reducible repeat (first | refine blk_drewN ?_ _ | refine blk_drew ?_ | refine blk_alloc ?_ _)); refine blk_put (cs := #[.int .u64 a0_2, .int .u64 (IntKind.u64.wrap (a0_2 + a1)), .int .u64 a0_2, .int .i64 0, .int .i64 0, .bool false]) ?_ 3 _ rfl; (with_reducible repeat (first | refine blk_drewN ?_ _ | refine blk_drew ?_ | refine blk_alloc ?_ _)); refine blk_put (cs := #[.int .u64 a0_2, .int .u64 (IntKind.u64.wrap (a0_2 + a1)), .int .u64 0, .int .i64 0, .int .i64 0, .bool false]) ?_ 2 _ rfl; (with_reducible repeat (first | refine blk_drewN ?_ _ | refine blk_drew ?_ | refine blk_alloc ?_ _)); refine blk_put (cs := #[.int .u64 a0_2, .int .u64 0, .int .u64 0, .int .i64 0, .int .i64 0, .bool false]) ?_ 1 _ rfl; (with_reducible repeat (first | refine blk_drewN ?_ _ | refine blk_drew ?_ | refine blk_alloc ?_ _)); refine blk_put (cs := #[.int .u64 0, .int .u64 0, .int .u64 0, .int .i64 0, .int .i64 0, .bool false]) ?_ 0 _ rfl; (iterate 2 ((with_reducible repeat (first | refine blk_drewN ?_ _ | refine blk_drew ?_ | refine blk_alloc ?_ _)); refine blk_far ?_ NB109_108.out _)); (with_reducible repeat (first | refine blk_drewN ?_ _ | refine blk_drew ?_ | refine blk_alloc ?_ _)); exact BK109.out))⟩; have n2_ : Aside0 (Below w.heap.size w w26) := ⟨(by rw [hw]; exact (uc HB.out))⟩; revert n0_ n1_ n2_; clear hw BK108 BK109 HB; intro BK108 BK109 HB))
    refine bodyPost_ret (results_cell_row rfl _ _ gb109 37 #[.int .u64 a0_2, .int .u64 (IntKind.u64.wrap (a0_2 + a1)), .int .u64 a0_2, .int .i64 a0_3, .int .i64 a0_4, .bool true] (0, 0) _ rfl (ub BK109.out) Try.underlying37 rfl (by kernel_rfl)) rfl ?_
    exact ur (uc HB.out)
   ·replace c17 := Bool.eq_false_iff.mpr c17
    subst c17
    have H1 : ((cap_Clear.f a0_0 a0_1 a0_2 a0_3 a0_4 true).bind fun bt123 => (some (bt123.1, bt123.2.1, bt123.2.2.1, bt123.2.2.2.1, bt123.2.2.2.2.1, bt123.2.2.2.2.2))) = some (r1, r2, r3, r4, r5, r6) := by rw [if_neg (show ¬ (false = true) by decide)] at H; exact H
    clear H
    have H := H1
    clear H1
    replace H := Option.bind_eq_some_iff.mp H
    obtain ⟨⟨t123, t124, t125, t126, t127, t128⟩, A270, H⟩ := H
    replace H : (some (t123, t124, t125, t126, t127, t128)) = some (r1, r2, r3, r4, r5, r6) := H
    have A27 := am A270
    clear A270
    simp only [Option.some.injEq, Prod.mk.injEq] at H
    obtain ⟨rfl, rfl, rfl, rfl, rfl, rfl⟩ := H
    go_enter Try.func25, Try.ntmps25
    try go_wp2_with (first | ((with_reducible refine gate_dst (N := 2) rfl ?_); refine box_event ?hg (N := 2) ?hd (cs := #[.int .u64 a0_0, .int .u64 a0_1, .int .u64 a0_2, .int .i64 a0_3, .int .i64 a0_4, .bool true]) (t := 37) ?hr ?_; (case hd => rfl); (case hg => rfl); (case hr => first | (go_simp; done) | (go_simp; rfl)); intro gb108 hg w28 hbox hb; have n0_ := bs HB hb; have n1_ := am (hbox); have n2_ := nz HB hg; have n3_ := nz HB hg; revert n0_ n1_ n2_ n3_; clear HB; intro HB BK108 GW108 GE108; clear hb hbox hg) | ((with_reducible refine gate_dst (N := 4) rfl ?_); refine box_event ?hg (N := 4) ?hd (cs := #[.int .u64 0, .int .u64 0, .int .u64 0, .int .i64 0, .int .i64 0, .bool false]) (t := 37) ?hr ?_; (case hd => rfl); (case hg => rfl); (case hr => first | (go_simp; done) | (go_simp; rfl)); intro gb109 hg w29 hbox hb; have n0_ := bw BK108 hb; have n1_ := bs HB hb; have n2_ := am (hbox); have n3_ := nz HB hg; have n4_ := nz HB hg; have n5_ := nl BK108 hg; have n6_ := nr BK108 hg; revert n0_ n1_ n2_ n3_ n4_ n5_ n6_; clear BK108 HB; intro BK108 HB BK109 GW109 GE109 NB108_109 NB109_108; clear hb hbox hg))
    have n0_ := am (blk_drew BK108.out)
    have n1_ := am (blk_drew BK109.out)
    have n2_ := am (below_drew1 HB.out)
    revert n0_ n1_ n2_
    clear BK108 BK109 HB
    intro BK108 BK109 HB
    refine sr 15 [] (hE6 BK108) (fun hHeld => ?_); refine with_tabW cap_Bound.tab1 cap_Bound.bits1 (fun HT_ HW_ => ?_)
    generalize w29.drew = w30 at BK108 BK109 HB hHeld ⊢
    refine tv 0 5 (bA 15 1) HT_ HW_ hHeld ?_ (hy := by rintro w' ⟨s0, s1, s2, s3, s4, s5⟩; go_simp; with_reducible rfl)
    refine tv 2 7 (bA 15 5) HT_ HW_ hHeld ?_ (hy := by rintro w' ⟨s0, s1, s2, s3, s4, s5⟩; go_simp; with_reducible rfl)
    refine one_ (i := 1) (N := some 6) (bA 15 7) rfl rfl (one_of HT_.out (by kernel_rfl)) (by decide) (fun K hK => ?_)
    refine goes_ Try.func49 (by kernel_rfl) rfl #[.agg #[.int .u64 a0_0, .int .u64 a0_1, .int .u64 a0_2, .int .i64 a0_3, .int .i64 a0_4, .bool true]] (by rfl) rfl rfl (by (try simp only [List.map_toArray, List.map_cons, List.map_nil]); first | done | rfl | (simp only [List.length_drop, List.length_take]; rfl)) ?_
    with_reducible refine (cap_open.calls a0_0 a0_1 a0_2 a0_3 a0_4 true t110 t111 t112 t113 t114 t115 _ A3.out).mono ?_
    rintro e w31 ⟨rfl, hb⟩
    refine ⟨_, rfl, ?_⟩
    have n0_ := bw BK108 hb
    have n1_ := bw BK109 hb
    have n2_ := bs HB hb
    revert n0_ n1_ n2_
    clear BK108 BK109 HB
    intro BK108 BK109 HB
    (try clear hb)
    (try clear hb2)
    (try clear hk)
    (try clear hi)
    refine hK.out _ _ ⟨cz BK108 0, cz BK108 1, cz BK108 2, cz BK108 3, cz BK108 4, cz BK108 5⟩ (fun hHeld => ?_)
    clear hK K
    refine norm_ (a' := ?_) ?_ ?_
    rotate_left
    ·show Act.put _ (some 6) _ = _
     simp only [Act.put, List.setIfInBounds_toArray, List.set_cons_zero, List.set_cons_succ, i64_w, i32_w]
     rfl
    refine pure_ (i := 3) (N := some 8) (v := ?_) (a' := ?_) (bA 15 15) rfl rfl (any_of HT_.out (by kernel_rfl)) (fun _ _ _ h => h) (Or.inl ⟨by rfl, ?_⟩) ?_ ?_
    rotate_left
    ·intro w'
     go_simp
     first | (rw [c4b0]; done) | (rw [c4b0]; with_reducible rfl) | (have h_ := c4b0; simp only [beq_true, beq_false, Bool.not_not] at h_; rw [h_]; done) | (have h_ := c4b0; simp only [beq_true, beq_false, Bool.not_not] at h_; rw [h_]; with_reducible rfl) | (with_reducible rfl)
    rotate_left
    ·simp only [Act.put, List.setIfInBounds_toArray, List.set_cons_zero, List.set_cons_succ, i64_w, i32_w]
     rfl
    refine pv 4 9 (bA 15 31) HT_ ?_
    refine pv 5 10 (bA 15 63) HT_ ?_
    refine tv 6 11 (bA 15 127) HT_ HW_ hHeld ?_ (hy := by rintro w' ⟨s0, s1, s2, s3, s4, s5⟩; go_simp; with_reducible rfl)
    refine pv 7 12 (bA 15 255) HT_ ?_
    refine pv 8 13 (bA 15 511) HT_ ?_
    refine pv 9 14 (bA 15 1023) HT_ ?_
    refine pv 11 16 (bA 15 3071) HT_ ?_
    refine tv 10 15 (bA 15 4095) HT_ HW_ hHeld ?_ (hy := by rintro w' ⟨s0, s1, s2, s3, s4, s5⟩; go_simp; with_reducible rfl)
    refine one_ (i := 12) (N := some 17) (bA 15 8191) rfl rfl (one_of HT_.out (by kernel_rfl)) (by decide) (fun K hK => ?_)
    refine goes_ Try.func50 (by kernel_rfl) rfl #[.agg #[.int .u64 a0_0, .int .u64 a0_1, .int .u64 a0_2, .int .i64 a0_3, .int .i64 a0_4, .bool true], .int .u64 a1] (by rfl) rfl rfl (by (try simp only [List.map_toArray, List.map_cons, List.map_nil]); first | done | rfl | (simp only [List.length_drop, List.length_take]; rfl)) ?_
    with_reducible refine (cap_fits.calls a0_0 a0_1 a0_2 a0_3 a0_4 true a1 false _ A16.out).mono ?_
    rintro e w32 ⟨rfl, hb⟩
    refine ⟨_, rfl, ?_⟩
    have n0_ := bw BK108 hb
    have n1_ := bw BK109 hb
    have n2_ := bs HB hb
    revert n0_ n1_ n2_
    clear BK108 BK109 HB
    intro BK108 BK109 HB
    (try clear hb)
    (try clear hb2)
    (try clear hk)
    (try clear hi)
    refine hK.out _ _ ⟨cz BK108 0, cz BK108 1, cz BK108 2, cz BK108 3, cz BK108 4, cz BK108 5⟩ (fun hHeld => ?_)
    clear hK K
    refine norm_ (a' := ?_) ?_ ?_
    rotate_left
    ·show Act.put _ (some 17) _ = _
     simp only [Act.put, List.setIfInBounds_toArray, List.set_cons_zero, List.set_cons_succ, i64_w, i32_w]
     rfl
    refine pv 13 18 (bA 15 16383) HT_ ?_
    refine pv 14 19 (bA 15 32767) HT_ ?_
    refine done_ (done_of HT_.out (by kernel_rfl)) ?_
    have hnb33 := NB108_109.out
    have hnc33 := NB109_108.out
    obtain ⟨hcz34_0, hcz34_1, hcz34_2, hcz34_3, hcz34_4, hcz34_5, hfz34_0, hfz34_1, hfz34_2, hfz34_3, hfz34_4, hfz34_5⟩ := cl6 BK108
    try go_wp2_with (first | ((with_reducible refine gate_dst (N := 21) rfl ?_); (with_reducible refine gate_callee (f := 51) rfl ?_); refine gl (some 21) Try.func51 #[.agg #[.int .u64 a0_0, .int .u64 a0_1, .int .u64 a0_2, .int .i64 a0_3, .int .i64 a0_4, .bool true]] ?_; (with_reducible refine (cap_Clear.calls a0_0 a0_1 a0_2 a0_3 a0_4 true t123 t124 t125 t126 t127 t128 _ A27.out).mono ?_); rintro e w35 ⟨rfl, hb⟩; refine ⟨_, rfl, ?_⟩; have n0_ := bw BK108 hb; have n1_ := bw BK109 hb; have n2_ := bs HB hb; revert n0_ n1_ n2_; clear BK108 BK109 HB; intro BK108 BK109 HB; (try clear hb); obtain ⟨hcz36_0, hcz36_1, hcz36_2, hcz36_3, hcz36_4, hcz36_5, hfz36_0, hfz36_1, hfz36_2, hfz36_3, hfz36_4, hfz36_5⟩ := cells6 BK109.out) | ((with_reducible refine gate_store (t := 37) (p := 4) rfl ?_); refine store_event (t := 37) (p := 4) (v := ?vo_w37) (w1 := ((((((w35.setCell ⟨gb109, 0, none⟩ (.int .u64 t123)).setCell ⟨gb109, 1, none⟩ (.int .u64 t124)).setCell ⟨gb109, 2, none⟩ (.int .u64 t125)).setCell ⟨gb109, 3, none⟩ (.int .i64 t126)).setCell ⟨gb109, 4, none⟩ (.int .i64 t127)).setCell ⟨gb109, 5, none⟩ (.bool t128))) ?hg ?ho ?hn ?hr ?_; (case ho => rfl); (case hg => rfl); (case hn => rfl); (case hr => first | (go_simp; done) | (go_simp; rfl)); intro w37 hw; have n0_ := bf6 hw NB108_109 BK108; have n1_ := bp6 #[.int .u64 t123, .int .u64 t124, .int .u64 t125, .int .i64 t126, .int .i64 t127, .bool t128] hw BK109; have n2_ : Aside0 (Below w.heap.size w w37) := ⟨(by rw [hw]; exact (uc HB.out))⟩; revert n0_ n1_ n2_; clear hw BK108 BK109 HB; intro BK108 BK109 HB))
    refine bodyPost_ret (results_cell_row rfl _ _ gb109 37 #[.int .u64 t123, .int .u64 t124, .int .u64 t125, .int .i64 t126, .int .i64 t127, .bool t128] (0, 0) _ rfl (ub BK109.out) Try.underlying37 rfl (by kernel_rfl)) rfl ?_
    exact ur (uc HB.out)
  ·replace c15 := Bool.eq_false_iff.mpr c15
   subst c15
   have H1 : ((cap_Clear.f a0_0 a0_1 a0_2 a0_3 a0_4 false).bind fun bt129 => (some (bt129.1, bt129.2.1, bt129.2.2.1, bt129.2.2.2.1, bt129.2.2.2.2.1, bt129.2.2.2.2.2))) = some (r1, r2, r3, r4, r5, r6) := by rw [if_neg (show ¬ (false = true) by decide)] at H; exact H
   clear H
   have H := H1
   clear H1
   replace H := Option.bind_eq_some_iff.mp H
   obtain ⟨⟨t129, t130, t131, t132, t133, t134⟩, A380, H⟩ := H
   replace H : (some (t129, t130, t131, t132, t133, t134)) = some (r1, r2, r3, r4, r5, r6) := H
   have A38 := am A380
   clear A380
   simp only [Option.some.injEq, Prod.mk.injEq] at H
   obtain ⟨rfl, rfl, rfl, rfl, rfl, rfl⟩ := H
   go_enter Try.func25, Try.ntmps25
   try go_wp2_with (first | ((with_reducible refine gate_dst (N := 2) rfl ?_); refine box_event ?hg (N := 2) ?hd (cs := #[.int .u64 a0_0, .int .u64 a0_1, .int .u64 a0_2, .int .i64 a0_3, .int .i64 a0_4, .bool false]) (t := 37) ?hr ?_; (case hd => rfl); (case hg => rfl); (case hr => first | (go_simp; done) | (go_simp; rfl)); intro gb108 hg w39 hbox hb; have n0_ := bs HB hb; have n1_ := am (hbox); have n2_ := nz HB hg; have n3_ := nz HB hg; revert n0_ n1_ n2_ n3_; clear HB; intro HB BK108 GW108 GE108; clear hb hbox hg) | ((with_reducible refine gate_dst (N := 4) rfl ?_); refine box_event ?hg (N := 4) ?hd (cs := #[.int .u64 0, .int .u64 0, .int .u64 0, .int .i64 0, .int .i64 0, .bool false]) (t := 37) ?hr ?_; (case hd => rfl); (case hg => rfl); (case hr => first | (go_simp; done) | (go_simp; rfl)); intro gb109 hg w40 hbox hb; have n0_ := bw BK108 hb; have n1_ := bs HB hb; have n2_ := am (hbox); have n3_ := nz HB hg; have n4_ := nz HB hg; have n5_ := nl BK108 hg; have n6_ := nr BK108 hg; revert n0_ n1_ n2_ n3_ n4_ n5_ n6_; clear BK108 HB; intro BK108 HB BK109 GW109 GE109 NB108_109 NB109_108; clear hb hbox hg))
   have n0_ := am (blk_drew BK108.out)
   have n1_ := am (blk_drew BK109.out)
   have n2_ := am (below_drew1 HB.out)
   revert n0_ n1_ n2_
   clear BK108 BK109 HB
   intro BK108 BK109 HB
   refine sr 15 [] (hE6 BK108) (fun hHeld => ?_); refine with_tabW cap_Bound.tab1 cap_Bound.bits1 (fun HT_ HW_ => ?_)
   generalize w40.drew = w41 at BK108 BK109 HB hHeld ⊢
   refine tv 0 5 (bA 15 1) HT_ HW_ hHeld ?_ (hy := by rintro w' ⟨s0, s1, s2, s3, s4, s5⟩; go_simp; with_reducible rfl)
   refine tv 2 7 (bA 15 5) HT_ HW_ hHeld ?_ (hy := by rintro w' ⟨s0, s1, s2, s3, s4, s5⟩; go_simp; with_reducible rfl)
   refine one_ (i := 1) (N := some 6) (bA 15 7) rfl rfl (one_of HT_.out (by kernel_rfl)) (by decide) (fun K hK => ?_)
   refine goes_ Try.func49 (by kernel_rfl) rfl #[.agg #[.int .u64 a0_0, .int .u64 a0_1, .int .u64 a0_2, .int .i64 a0_3, .int .i64 a0_4, .bool false]] (by rfl) rfl rfl (by (try simp only [List.map_toArray, List.map_cons, List.map_nil]); first | done | rfl | (simp only [List.length_drop, List.length_take]; rfl)) ?_
   with_reducible refine (cap_open.calls a0_0 a0_1 a0_2 a0_3 a0_4 false t110 t111 t112 t113 t114 t115 _ A3.out).mono ?_
   rintro e w42 ⟨rfl, hb⟩
   refine ⟨_, rfl, ?_⟩
   have n0_ := bw BK108 hb
   have n1_ := bw BK109 hb
   have n2_ := bs HB hb
   revert n0_ n1_ n2_
   clear BK108 BK109 HB
   intro BK108 BK109 HB
   (try clear hb)
   (try clear hb2)
   (try clear hk)
   (try clear hi)
   refine hK.out _ _ ⟨cz BK108 0, cz BK108 1, cz BK108 2, cz BK108 3, cz BK108 4, cz BK108 5⟩ (fun hHeld => ?_)
   clear hK K
   refine norm_ (a' := ?_) ?_ ?_
   rotate_left
   ·show Act.put _ (some 6) _ = _
    simp only [Act.put, List.setIfInBounds_toArray, List.set_cons_zero, List.set_cons_succ, i64_w, i32_w]
    rfl
   refine pure_ (i := 3) (N := some 8) (v := ?_) (a' := ?_) (bA 15 15) rfl rfl (any_of HT_.out (by kernel_rfl)) (fun _ _ _ h => h) (Or.inl ⟨by rfl, ?_⟩) ?_ ?_
   rotate_left
   ·intro w'
    go_simp
    first | (rw [c4b0]; done) | (rw [c4b0]; with_reducible rfl) | (have h_ := c4b0; simp only [beq_true, beq_false, Bool.not_not] at h_; rw [h_]; done) | (have h_ := c4b0; simp only [beq_true, beq_false, Bool.not_not] at h_; rw [h_]; with_reducible rfl) | (with_reducible rfl)
   rotate_left
   ·simp only [Act.put, List.setIfInBounds_toArray, List.set_cons_zero, List.set_cons_succ, i64_w, i32_w]
    rfl
   refine pv 4 9 (bA 15 31) HT_ ?_
   refine pv 5 10 (bA 15 63) HT_ ?_
   refine tv 6 11 (bA 15 127) HT_ HW_ hHeld ?_ (hy := by rintro w' ⟨s0, s1, s2, s3, s4, s5⟩; go_simp; with_reducible rfl)
   refine pv 7 12 (bA 15 255) HT_ ?_
   refine pv 8 13 (bA 15 511) HT_ ?_
   refine pv 9 14 (bA 15 1023) HT_ ?_
   refine pn 10 15 (bA 15 2047) HT_ ?_ ?_ ?_; rotate_left; (simp only [Act.put, s1, s2, s3, i64_w, i32_w]; rfl)
   refine pn 11 16 (bA 15 4095) HT_ ?_ ?_ ?_; rotate_left; (simp only [Act.put, s1, s2, s3, i64_w, i32_w]; rfl)
   refine pn 12 17 (bA 15 8191) HT_ ?_ ?_ ?_; rotate_left; (simp only [Act.put, s1, s2, s3, i64_w, i32_w]; rfl)
   refine pn 13 18 (bA 15 16383) HT_ ?_ ?_ ?_; rotate_left; (simp only [Act.put, s1, s2, s3, i64_w, i32_w]; rfl)
   refine pv 14 19 (bA 15 32767) HT_ ?_
   refine done_ (done_of HT_.out (by kernel_rfl)) ?_
   have hnb43 := NB108_109.out
   have hnc43 := NB109_108.out
   obtain ⟨hcz44_0, hcz44_1, hcz44_2, hcz44_3, hcz44_4, hcz44_5, hfz44_0, hfz44_1, hfz44_2, hfz44_3, hfz44_4, hfz44_5⟩ := cl6 BK108
   try go_wp2_with (first | ((with_reducible refine gate_dst (N := 21) rfl ?_); (with_reducible refine gate_callee (f := 51) rfl ?_); refine gl (some 21) Try.func51 #[.agg #[.int .u64 a0_0, .int .u64 a0_1, .int .u64 a0_2, .int .i64 a0_3, .int .i64 a0_4, .bool false]] ?_; (with_reducible refine (cap_Clear.calls a0_0 a0_1 a0_2 a0_3 a0_4 false t129 t130 t131 t132 t133 t134 _ A38.out).mono ?_); rintro e w45 ⟨rfl, hb⟩; refine ⟨_, rfl, ?_⟩; have n0_ := bw BK108 hb; have n1_ := bw BK109 hb; have n2_ := bs HB hb; revert n0_ n1_ n2_; clear BK108 BK109 HB; intro BK108 BK109 HB; (try clear hb); obtain ⟨hcz46_0, hcz46_1, hcz46_2, hcz46_3, hcz46_4, hcz46_5, hfz46_0, hfz46_1, hfz46_2, hfz46_3, hfz46_4, hfz46_5⟩ := cells6 BK109.out) | ((with_reducible refine gate_store (t := 37) (p := 4) rfl ?_); refine store_event (t := 37) (p := 4) (v := ?vo_w47) (w1 := ((((((w45.setCell ⟨gb109, 0, none⟩ (.int .u64 t129)).setCell ⟨gb109, 1, none⟩ (.int .u64 t130)).setCell ⟨gb109, 2, none⟩ (.int .u64 t131)).setCell ⟨gb109, 3, none⟩ (.int .i64 t132)).setCell ⟨gb109, 4, none⟩ (.int .i64 t133)).setCell ⟨gb109, 5, none⟩ (.bool t134))) ?hg ?ho ?hn ?hr ?_; (case ho => rfl); (case hg => rfl); (case hn => rfl); (case hr => first | (go_simp; done) | (go_simp; rfl)); intro w47 hw; have n0_ := bf6 hw NB108_109 BK108; have n1_ := bp6 #[.int .u64 t129, .int .u64 t130, .int .u64 t131, .int .i64 t132, .int .i64 t133, .bool t134] hw BK109; have n2_ : Aside0 (Below w.heap.size w w47) := ⟨(by rw [hw]; exact (uc HB.out))⟩; revert n0_ n1_ n2_; clear hw BK108 BK109 HB; intro BK108 BK109 HB))
   refine bodyPost_ret (results_cell_row rfl _ _ gb109 37 #[.int .u64 t129, .int .u64 t130, .int .u64 t131, .int .i64 t132, .int .i64 t133, .bool t134] (0, 0) _ rfl (ub BK109.out) Try.underlying37 rfl (by kernel_rfl)) rfl ?_
   exact ur (uc HB.out)

def cap_Move.f (a0_0 : Int) (a0_1 : Int) (a0_2 : Int) (a0_3 : Int) (a0_4 : Int) (a0_5 : Bool) (a1 : Int) : Option (Int × Int × Int × Int × Int × Bool) := (cap_open.f a0_0 a0_1 a1 a0_3 a0_4 a0_5).bind fun bt137 => (some (bt137.1, bt137.2.1, bt137.2.2.1, bt137.2.2.2.1, bt137.2.2.2.2.1, bt137.2.2.2.2.2))
set_option maxHeartbeats 8000000 in
set_option maxRecDepth 100000 in
theorem cap_Move.calls (a0_0 : Int) (a0_1 : Int) (a0_2 : Int) (a0_3 : Int) (a0_4 : Int) (a0_5 : Bool) (a1 : Int) (r1 : Int) (r2 : Int) (r3 : Int) (r4 : Int) (r5 : Int) (r6 : Bool) (w : World) (h : cap_Move.f a0_0 a0_1 a0_2 a0_3 a0_4 a0_5 a1 = some (r1, r2, r3, r4, r5, r6)) :
  Calls Try.prog 26 #[.agg #[.int .u64 a0_0, .int .u64 a0_1, .int .u64 a0_2, .int .i64 a0_3, .int .i64 a0_4, .bool a0_5], .int .u64 a1] w fun e w' => e = .returned (.agg #[.int .u64 r1, .int .u64 r2, .int .u64 r3, .int .i64 r4, .int .i64 r5, .bool r6]) ∧ Below w.heap.size w w' := by
 have hu37 := Try.underlying37
 have HB := am (Below.refl w.heap.size w)
 have H : ((cap_open.f a0_0 a0_1 a1 a0_3 a0_4 a0_5).bind fun bt137 => (some (bt137.1, bt137.2.1, bt137.2.2.1, bt137.2.2.2.1, bt137.2.2.2.2.1, bt137.2.2.2.2.2))) = some (r1, r2, r3, r4, r5, r6) := h
 clear h
 replace H := Option.bind_eq_some_iff.mp H
 obtain ⟨⟨t137, t138, t139, t140, t141, t142⟩, A30, H⟩ := H
 replace H : (some (t137, t138, t139, t140, t141, t142)) = some (r1, r2, r3, r4, r5, r6) := H
 have A3 := am A30
 clear A30
 simp only [Option.some.injEq, Prod.mk.injEq] at H
 obtain ⟨rfl, rfl, rfl, rfl, rfl, rfl⟩ := H
 go_enter Try.func26, Try.ntmps26
 go_wp2_with (first | ((with_reducible refine gate_dst (N := 2) rfl ?_); refine box_event ?hg (N := 2) ?hd (cs := #[.int .u64 a0_0, .int .u64 a0_1, .int .u64 a0_2, .int .i64 a0_3, .int .i64 a0_4, .bool a0_5]) (t := 37) ?hr ?_; (case hd => rfl); (case hg => rfl); (case hr => first | (go_simp; done) | (go_simp; rfl)); intro gb135 hg w4 hbox hb; have n0_ := bs HB hb; have n1_ := am (hbox); have n2_ := nz HB hg; have n3_ := nz HB hg; revert n0_ n1_ n2_ n3_; clear HB; intro HB BK135 GW135 GE135; clear hb hbox hg) | ((with_reducible refine gate_dst (N := 4) rfl ?_); refine box_event ?hg (N := 4) ?hd (cs := #[.int .u64 0, .int .u64 0, .int .u64 0, .int .i64 0, .int .i64 0, .bool false]) (t := 37) ?hr ?_; (case hd => rfl); (case hg => rfl); (case hr => first | (go_simp; done) | (go_simp; rfl)); intro gb136 hg w5 hbox hb; have n0_ := bw BK135 hb; have n1_ := bs HB hb; have n2_ := am (hbox); have n3_ := nz HB hg; have n4_ := nz HB hg; have n5_ := nl BK135 hg; have n6_ := nr BK135 hg; revert n0_ n1_ n2_ n3_ n4_ n5_ n6_; clear BK135 HB; intro BK135 HB BK136 GW136 GE136 NB135_136 NB136_135; clear hb hbox hg; have hnb6 := NB135_136.out; have hnc6 := NB136_135.out; obtain ⟨hcz7_0, hcz7_1, hcz7_2, hcz7_3, hcz7_4, hcz7_5, hfz7_0, hfz7_1, hfz7_2, hfz7_3, hfz7_4, hfz7_5⟩ := cells6 BK135.out) | ((with_reducible refine gate_dst (N := 8) rfl ?_); (with_reducible refine gate_callee (f := 49) rfl ?_); refine gl (some 8) Try.func49 #[.agg #[.int .u64 a0_0, .int .u64 a0_1, .int .u64 a1, .int .i64 a0_3, .int .i64 a0_4, .bool a0_5]] ?_; (with_reducible refine (cap_open.calls a0_0 a0_1 a1 a0_3 a0_4 a0_5 t137 t138 t139 t140 t141 t142 _ A3.out).mono ?_); rintro e w8 ⟨rfl, hb⟩; refine ⟨_, rfl, ?_⟩; have n0_ := am (blk_below (g := gb135) (o := .cells #[.int .u64 a0_0, .int .u64 a0_1, .int .u64 a1, .int .i64 a0_3, .int .i64 a0_4, .bool a0_5] 37 (0, 0)) (by (with_reducible repeat (first | refine blk_drewN ?_ _ | refine blk_drew ?_ | refine blk_alloc ?_ _)); refine blk_put (cs := #[.int .u64 a0_0, .int .u64 a0_1, .int .u64 a0_2, .int .i64 a0_3, .int .i64 a0_4, .bool a0_5]) ?_ 2 _ rfl; (with_reducible repeat (first | refine blk_drewN ?_ _ | refine blk_drew ?_ | refine blk_alloc ?_ _)); exact BK135.out) hb); have n1_ := am (blk_below (g := gb136) (o := .cells #[.int .u64 0, .int .u64 0, .int .u64 0, .int .i64 0, .int .i64 0, .bool false] 37 (0, 0)) (by (with_reducible repeat (first | refine blk_drewN ?_ _ | refine blk_drew ?_ | refine blk_alloc ?_ _)); refine blk_far ?_ NB136_135.out _; (with_reducible repeat (first | refine blk_drewN ?_ _ | refine blk_drew ?_ | refine blk_alloc ?_ _)); exact BK136.out) hb); have n2_ := bs HB hb; revert n0_ n1_ n2_; clear BK135 BK136 HB; intro BK135 BK136 HB; (try clear hb); obtain ⟨hcz9_0, hcz9_1, hcz9_2, hcz9_3, hcz9_4, hcz9_5, hfz9_0, hfz9_1, hfz9_2, hfz9_3, hfz9_4, hfz9_5⟩ := cells6 BK136.out) | ((with_reducible refine gate_store (t := 37) (p := 4) rfl ?_); refine store_event (t := 37) (p := 4) (v := ?vo_w10) (w1 := ((((((w8.setCell ⟨gb136, 0, none⟩ (.int .u64 t137)).setCell ⟨gb136, 1, none⟩ (.int .u64 t138)).setCell ⟨gb136, 2, none⟩ (.int .u64 t139)).setCell ⟨gb136, 3, none⟩ (.int .i64 t140)).setCell ⟨gb136, 4, none⟩ (.int .i64 t141)).setCell ⟨gb136, 5, none⟩ (.bool t142))) ?hg ?ho ?hn ?hr ?_; (case ho => rfl); (case hg => rfl); (case hn => rfl); (case hr => first | (go_simp; done) | (go_simp; rfl)); intro w10 hw; have n0_ := bf6 hw NB135_136 BK135; have n1_ := bp6 #[.int .u64 t137, .int .u64 t138, .int .u64 t139, .int .i64 t140, .int .i64 t141, .bool t142] hw BK136; have n2_ : Aside0 (Below w.heap.size w w10) := ⟨(by rw [hw]; exact (uc HB.out))⟩; revert n0_ n1_ n2_; clear hw BK135 BK136 HB; intro BK135 BK136 HB))
 refine bodyPost_ret (results_cell_row rfl _ _ gb136 37 #[.int .u64 t137, .int .u64 t138, .int .u64 t139, .int .i64 t140, .int .i64 t141, .bool t142] (0, 0) _ rfl (ub BK136.out) Try.underlying37 rfl (by kernel_rfl)) rfl ?_
 exact ur (uc HB.out)

end Go.Proofs.Ytlbfeklpncoccaa.P
