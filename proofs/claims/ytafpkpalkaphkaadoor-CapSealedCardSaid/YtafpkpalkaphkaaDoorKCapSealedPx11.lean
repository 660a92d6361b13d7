/- What functions of the program, and of its laws, give, each proved of its code by a walk; no condition. -/
import Derived.Test.YtafpkpalkaphkaaDoorKCapSealedPx0
import Derived.Test.YtafpkpalkaphkaaDoorKCapSealedPx1
import Derived.Test.YtafpkpalkaphkaaDoorKCapSealedPx3
import Derived.Test.YtafpkpalkaphkaaDoorKCapSealedPx4
import Derived.Test.YtafpkpalkaphkaaDoorKCapSealedPx6
import Derived.Test.YtafpkpalkaphkaaDoorKCapSealedPx7
import Derived.Test.YtafpkpalkaphkaaDoorKCapSealedPx8
import Derived.Test.YtafpkpalkaphkaaDoorKCapSealedPx9
import Derived.Test.YtafpkpalkaphkaaDoorKCapSealedPx10
import Derived.Test.YtafpkpalkaphkaaDoorKCapSealedSq
namespace Go.Proofs.YtafpkpalkaphkaaDoor.P
open Go.RowKit Go.Proofs.YtafpkpalkaphkaaDoorW.PrintWords Go.Proofs.YtafpkpalkaphkaaDoorW.PrintLast Go.Proofs.YtafpkpalkaphkaaDoorW.PrintMore
attribute [local go_sem] max2_int min2_int max_two min_two max_three min_three max_four min_four   -- for this text's walks alone
set_option linter.unusedVariables false
set_option linter.unusedSimpArgs false

attribute [local go_sem high] eqA24

def curtilagelaw02_CapSealed.j0 : Nat → Int → Int → Bool → Bool → Int → Int → Int → Int → Int → Bool → Int → Int → Int → Int → Int → Bool → Option (Bool)
  | 0, _, _, _, _, _, _, _, _, _, _, _, _, _, _, _, _ => none
  | k + 1, x2, x3, x9, x39, x375000, x375001, x375002, x375003, x375004, x375005, x376000, x376001, x376002, x376003, x376004, x376005 => if x39 = true then (some x9) else ((cap_Seal.f x375000 x375001 x375002 x375003 x375004 x375005 x376000 x376001 x376002 x376003 x376004 x376005).bind fun bt379 => (if bt379.2.2.2.2.2 = true then ((cap_Check.f bt379.1 bt379.2.1 bt379.2.2.1 bt379.2.2.2.1 bt379.2.2.2.2.1 bt379.2.2.2.2.2 x2 x3).bind fun t386 => ((cap_Move.f bt379.1 bt379.2.1 bt379.2.2.1 bt379.2.2.2.1 bt379.2.2.2.2.1 bt379.2.2.2.2.2 x2).bind fun bt387 => ((cap_Bound.f bt379.1 bt379.2.1 bt379.2.2.1 bt379.2.2.2.1 bt379.2.2.2.2.1 bt379.2.2.2.2.2 x2).bind fun bt394 => ((cap_And.f bt379.1 bt379.2.1 bt379.2.2.1 bt379.2.2.2.1 bt379.2.2.2.2.1 bt379.2.2.2.2.2 x3).bind fun bt401 => ((cap_Seal.f bt379.1 bt379.2.1 bt379.2.2.1 bt379.2.2.2.1 bt379.2.2.2.2.1 bt379.2.2.2.2.2 x376000 x376001 x376002 x376003 x376004 x376005).bind fun bt408 => ((cap_Unseal.f bt379.1 bt379.2.1 bt379.2.2.1 bt379.2.2.2.1 bt379.2.2.2.2.1 bt379.2.2.2.2.2 x376000 x376001 x376002 x376003 x376004 x376005).bind fun bt415 => ((cap_Move.f x376000 x376001 x376002 x376003 x376004 x376005 x2).bind fun bt422 => ((cap_Unseal.f bt379.1 bt379.2.1 bt379.2.2.1 bt379.2.2.2.1 bt379.2.2.2.2.1 bt379.2.2.2.2.2 bt422.1 bt422.2.1 bt422.2.2.1 bt422.2.2.2.1 bt422.2.2.2.2.1 bt422.2.2.2.2.2).bind fun bt428 => (if x9 = true then (if t386 = 21 then (if bt387.2.2.2.2.2 = true then (some false) else (if bt394.2.2.2.2.2 = true then (some false) else (if bt401.2.2.2.2.2 = true then (some false) else (if bt408.2.2.2.2.2 = true then (some false) else (if ((bt415.1 == x375000 && (bt415.2.1 == x375001 && (bt415.2.2.1 == x375002 && (bt415.2.2.2.1 == x375003 && (bt415.2.2.2.2.1 == x375004 && (bt415.2.2.2.2.2 == x375005)))))) == ((Go.bits .and .i64 x376003 64) != 0)) = true then (if (Go.bits .and .i64 x376003 64) = 0 then (if bt415.2.2.2.2.2 = true then (some false) else (if x2 = x376002 then (some true) else (some (!bt428.2.2.2.2.2)))) else (if x2 = x376002 then (some true) else (some (!bt428.2.2.2.2.2)))) else (some false)))))) else (some false)) else (some false)))))))))) else (some x9)))
def curtilagelaw02_CapSealed.f (k : Nat) (a0_0 : Int) (a0_1 : Int) (a0_2 : Int) (a0_3 : Int) (a0_4 : Int) (a0_5 : Bool) (a1_0 : Int) (a1_1 : Int) (a1_2 : Int) (a1_3 : Int) (a1_4 : Int) (a1_5 : Bool) (a2 : Int) (a3 : Int) : Option (Bool) := (curtilagelaw02_awake.f k).bind fun t376 => ((curtilageref02_Right.f a0_0 a0_1 a0_2 a0_3 a0_4 a0_5).bind fun t377 => ((curtilageref02_Right.f a1_0 a1_1 a1_2 a1_3 a1_4 a1_5).bind fun t378 => (if t377 = true then (if t378 = true then (if a3 < 0 then (curtilagelaw02_CapSealed.j0 k a2 a3 t376 true a0_0 a0_1 a0_2 a0_3 a0_4 a0_5 a1_0 a1_1 a1_2 a1_3 a1_4 a1_5) else (curtilagelaw02_CapSealed.j0 k a2 a3 t376 (decide (a3 > 255)) a0_0 a0_1 a0_2 a0_3 a0_4 a0_5 a1_0 a1_1 a1_2 a1_3 a1_4 a1_5)) else (curtilagelaw02_CapSealed.j0 k a2 a3 t376 true a0_0 a0_1 a0_2 a0_3 a0_4 a0_5 a1_0 a1_1 a1_2 a1_3 a1_4 a1_5)) else (curtilagelaw02_CapSealed.j0 k a2 a3 t376 true a0_0 a0_1 a0_2 a0_3 a0_4 a0_5 a1_0 a1_1 a1_2 a1_3 a1_4 a1_5))))
theorem curtilagelaw02_CapSealed.mono_l : ∀ k, (∀ y0 y1 y2 y3 y4 y5 y6 y7 y8 y9 y10 y11 y12 y13 y14 y15, LeO (curtilagelaw02_CapSealed.j0 k y0 y1 y2 y3 y4 y5 y6 y7 y8 y9 y10 y11 y12 y13 y14 y15) (curtilagelaw02_CapSealed.j0 (k + 1) y0 y1 y2 y3 y4 y5 y6 y7 y8 y9 y10 y11 y12 y13 y14 y15))
  | 0 => fun _ _ _ _ _ _ _ _ _ _ _ _ _ _ _ _ r h => by simp [curtilagelaw02_CapSealed.j0] at h
  | k + 1 => by
    have ih0 := curtilagelaw02_CapSealed.mono_l k
    · intro y0 y1 y2 y3 y4 y5 y6 y7 y8 y9 y10 y11 y12 y13 y14 y15
      unfold curtilagelaw02_CapSealed.j0
      repeat' first
      | (with_reducible exact ih0 _ _ _ _ _ _ _ _ _ _ _ _ _ _ _ _)
      | (with_reducible exact curtilagelaw02_awake.mono _)
      | (with_reducible exact LeO.refl _)
      | (with_reducible exact LeO.none _)
      | (with_reducible refine LeO.ite ?_ ?_)
      | (with_reducible refine LeO.bind ?_ (fun _ => ?_))
      | exact ih0 _ _ _ _ _ _ _ _ _ _ _ _ _ _ _ _
      | exact curtilagelaw02_awake.mono _
      | exact LeO.none _
      | refine LeO.ite ?_ ?_
      | refine LeO.bind ?_ (fun _ => ?_)
theorem curtilagelaw02_CapSealed.mono : ∀ a0 a1 a2 a3 a4 a5 a6 a7 a8 a9 a10 a11 a12 a13 k, LeO (curtilagelaw02_CapSealed.f k a0 a1 a2 a3 a4 a5 a6 a7 a8 a9 a10 a11 a12 a13) (curtilagelaw02_CapSealed.f (k + 1) a0 a1 a2 a3 a4 a5 a6 a7 a8 a9 a10 a11 a12 a13) := by
  intro a0 a1 a2 a3 a4 a5 a6 a7 a8 a9 a10 a11 a12 a13 k
  have ih0 := curtilagelaw02_CapSealed.mono_l k
  unfold curtilagelaw02_CapSealed.f
  repeat' first
      | (with_reducible exact ih0 _ _ _ _ _ _ _ _ _ _ _ _ _ _ _ _)
      | (with_reducible exact curtilagelaw02_awake.mono _)
      | (with_reducible exact LeO.refl _)
      | (with_reducible exact LeO.none _)
      | (with_reducible refine LeO.ite ?_ ?_)
      | (with_reducible refine LeO.bind ?_ (fun _ => ?_))
      | exact ih0 _ _ _ _ _ _ _ _ _ _ _ _ _ _ _ _
      | exact curtilagelaw02_awake.mono _
      | exact LeO.none _
      | refine LeO.ite ?_ ?_
      | refine LeO.bind ?_ (fun _ => ?_)
set_option maxHeartbeats 8000000 in
set_option maxRecDepth 100000 in
theorem curtilagelaw02_CapSealed.calls (k : Nat) (a0_0 : Int) (a0_1 : Int) (a0_2 : Int) (a0_3 : Int) (a0_4 : Int) (a0_5 : Bool) (a1_0 : Int) (a1_1 : Int) (a1_2 : Int) (a1_3 : Int) (a1_4 : Int) (a1_5 : Bool) (a2 : Int) (a3 : Int) (r : Bool) (w : World) (h : curtilagelaw02_CapSealed.f k a0_0 a0_1 a0_2 a0_3 a0_4 a0_5 a1_0 a1_1 a1_2 a1_3 a1_4 a1_5 a2 a3 = some r) (htab : Lib.TabIs Tryd.prog w "internal/strconv.uint64pow10" .u64 Lib.pow10Tab) (hr0 : r = true) :
  Calls Tryd.prog 5 #[.agg #[.int .u64 a0_0, .int .u64 a0_1, .int .u64 a0_2, .int .i64 a0_3, .int .i64 a0_4, .bool a0_5], .agg #[.int .u64 a1_0, .int .u64 a1_1, .int .u64 a1_2, .int .i64 a1_3, .int .i64 a1_4, .bool a1_5], .int .u64 a2, .int .i64 a3] w fun e w' => e = .returned (.bool r) ∧ Below w.heap.size w w' := by
 have HT := Aside0.mk hr0
 clear hr0
 have HTAB := Aside0.mk (Lib.tabBelow_of_tabIs htab)
 clear htab
 have hu24 := Tryd.underlying24
 have HB := Aside0.mk (Below.refl w.heap.size w)
 have H : ((curtilagelaw02_awake.f k).bind fun t376 => ((curtilageref02_Right.f a0_0 a0_1 a0_2 a0_3 a0_4 a0_5).bind fun t377 => ((curtilageref02_Right.f a1_0 a1_1 a1_2 a1_3 a1_4 a1_5).bind fun t378 => (if t377 = true then (if t378 = true then (if a3 < 0 then (curtilagelaw02_CapSealed.j0 k a2 a3 t376 true a0_0 a0_1 a0_2 a0_3 a0_4 a0_5 a1_0 a1_1 a1_2 a1_3 a1_4 a1_5) else (curtilagelaw02_CapSealed.j0 k a2 a3 t376 (decide (a3 > 255)) a0_0 a0_1 a0_2 a0_3 a0_4 a0_5 a1_0 a1_1 a1_2 a1_3 a1_4 a1_5)) else (curtilagelaw02_CapSealed.j0 k a2 a3 t376 true a0_0 a0_1 a0_2 a0_3 a0_4 a0_5 a1_0 a1_1 a1_2 a1_3 a1_4 a1_5)) else (curtilagelaw02_CapSealed.j0 k a2 a3 t376 true a0_0 a0_1 a0_2 a0_3 a0_4 a0_5 a1_0 a1_1 a1_2 a1_3 a1_4 a1_5))))) = some r := h
 clear h
 replace H := Option.bind_eq_some_iff.mp H
 obtain ⟨t376, A50, H⟩ := H
 replace H : ((curtilageref02_Right.f a0_0 a0_1 a0_2 a0_3 a0_4 a0_5).bind fun t377 => ((curtilageref02_Right.f a1_0 a1_1 a1_2 a1_3 a1_4 a1_5).bind fun t378 => (if t377 = true then (if t378 = true then (if a3 < 0 then (curtilagelaw02_CapSealed.j0 k a2 a3 t376 true a0_0 a0_1 a0_2 a0_3 a0_4 a0_5 a1_0 a1_1 a1_2 a1_3 a1_4 a1_5) else (curtilagelaw02_CapSealed.j0 k a2 a3 t376 (decide (a3 > 255)) a0_0 a0_1 a0_2 a0_3 a0_4 a0_5 a1_0 a1_1 a1_2 a1_3 a1_4 a1_5)) else (curtilagelaw02_CapSealed.j0 k a2 a3 t376 true a0_0 a0_1 a0_2 a0_3 a0_4 a0_5 a1_0 a1_1 a1_2 a1_3 a1_4 a1_5)) else (curtilagelaw02_CapSealed.j0 k a2 a3 t376 true a0_0 a0_1 a0_2 a0_3 a0_4 a0_5 a1_0 a1_1 a1_2 a1_3 a1_4 a1_5)))) = some r := H
 have A5 := Aside0.mk A50
 clear A50
 replace H := Option.bind_eq_some_iff.mp H
 obtain ⟨t377, A60, H⟩ := H
 replace H : ((curtilageref02_Right.f a1_0 a1_1 a1_2 a1_3 a1_4 a1_5).bind fun t378 => (if t377 = true then (if t378 = true then (if a3 < 0 then (curtilagelaw02_CapSealed.j0 k a2 a3 t376 true a0_0 a0_1 a0_2 a0_3 a0_4 a0_5 a1_0 a1_1 a1_2 a1_3 a1_4 a1_5) else (curtilagelaw02_CapSealed.j0 k a2 a3 t376 (decide (a3 > 255)) a0_0 a0_1 a0_2 a0_3 a0_4 a0_5 a1_0 a1_1 a1_2 a1_3 a1_4 a1_5)) else (curtilagelaw02_CapSealed.j0 k a2 a3 t376 true a0_0 a0_1 a0_2 a0_3 a0_4 a0_5 a1_0 a1_1 a1_2 a1_3 a1_4 a1_5)) else (curtilagelaw02_CapSealed.j0 k a2 a3 t376 true a0_0 a0_1 a0_2 a0_3 a0_4 a0_5 a1_0 a1_1 a1_2 a1_3 a1_4 a1_5))) = some r := H
 have A6 := Aside0.mk A60
 clear A60
 replace H := Option.bind_eq_some_iff.mp H
 obtain ⟨t378, A70, H⟩ := H
 replace H : (if t377 = true then (if t378 = true then (if a3 < 0 then (curtilagelaw02_CapSealed.j0 k a2 a3 t376 true a0_0 a0_1 a0_2 a0_3 a0_4 a0_5 a1_0 a1_1 a1_2 a1_3 a1_4 a1_5) else (curtilagelaw02_CapSealed.j0 k a2 a3 t376 (decide (a3 > 255)) a0_0 a0_1 a0_2 a0_3 a0_4 a0_5 a1_0 a1_1 a1_2 a1_3 a1_4 a1_5)) else (curtilagelaw02_CapSealed.j0 k a2 a3 t376 true a0_0 a0_1 a0_2 a0_3 a0_4 a0_5 a1_0 a1_1 a1_2 a1_3 a1_4 a1_5)) else (curtilagelaw02_CapSealed.j0 k a2 a3 t376 true a0_0 a0_1 a0_2 a0_3 a0_4 a0_5 a1_0 a1_1 a1_2 a1_3 a1_4 a1_5)) = some r := H
 have A7 := Aside0.mk A70
 clear A70
 have HC8 := Aside0.mk H
 clear H
 go_enter Tryd.func5, Tryd.ntmps5
 go_upto_region 4 with (first | ((with_reducible refine gate_dst (N := 4) rfl ?_); refine box_event ?hg (N := 4) ?hd (cs := #[.int .u64 a0_0, .int .u64 a0_1, .int .u64 a0_2, .int .i64 a0_3, .int .i64 a0_4, .bool a0_5]) (t := 24) ?hr ?_; (case hd => rfl); (case hg => rfl); (case hr => first | (go_simp; done) | (go_simp; rfl)); intro gb374 hg w9 hbox hb; have n0_ := Aside0.mk (below_step (by repeat (first | (with_reducible first | exact HB.out | apply below_alloc | apply pw_below_drewN | apply below_drew1) | exact HB.out)) hb); have n1_ := Aside0.mk (hbox); have n2_ := Aside0.mk ((by rw [hg]; exact (below_size (by repeat (first | (with_reducible first | exact HB.out | apply below_alloc | apply pw_below_drewN | apply below_drew1) | exact HB.out))) : w.heap.size ≤ gb374)); have n3_ := n2_; clear HB; have HB := n0_; have BK374 := n1_; have GW374 := n2_; have GE374 := n3_; clear n0_ n1_ n2_ n3_; clear hb hbox hg) | ((with_reducible refine gate_dst (N := 5) rfl ?_); refine box_event ?hg (N := 5) ?hd (cs := #[.int .u64 a1_0, .int .u64 a1_1, .int .u64 a1_2, .int .i64 a1_3, .int .i64 a1_4, .bool a1_5]) (t := 24) ?hr ?_; (case hd => rfl); (case hg => rfl); (case hr => first | (go_simp; done) | (go_simp; rfl)); intro gb375 hg w10 hbox hb; have n0_ := Aside0.mk (blk_below (g := gb374) (o := .cells #[.int .u64 a0_0, .int .u64 a0_1, .int .u64 a0_2, .int .i64 a0_3, .int .i64 a0_4, .bool a0_5] 24 (0, 0)) (by (with_reducible repeat (first | refine blk_drewN ?_ _ | refine blk_drew ?_ | refine blk_alloc ?_ _)); exact BK374.out) hb); have n1_ := Aside0.mk (below_step (by repeat (first | (with_reducible first | exact HB.out | apply below_alloc | apply pw_below_drewN | apply below_drew1 | refine below_set ?_ GE374.out) | exact HB.out)) hb); have n2_ := Aside0.mk (hbox); have n3_ := Aside0.mk ((by rw [hg]; exact (below_size (by repeat (first | (with_reducible first | exact HB.out | apply below_alloc | apply pw_below_drewN | apply below_drew1 | refine below_set ?_ GE374.out) | exact HB.out))) : w.heap.size ≤ gb375)); have n4_ := n3_; have n5_ := Aside0.mk ((by rw [hg]; exact Nat.ne_of_lt (blk_lt (g := gb374) (o := .cells #[.int .u64 a0_0, .int .u64 a0_1, .int .u64 a0_2, .int .i64 a0_3, .int .i64 a0_4, .bool a0_5] 24 (0, 0)) (by (with_reducible repeat (first | refine blk_drewN ?_ _ | refine blk_drew ?_ | refine blk_alloc ?_ _)); exact BK374.out)) : gb374 ≠ gb375)); have n6_ := Aside0.mk n5_.out.symm; clear BK374; clear HB; have BK374 := n0_; have HB := n1_; have BK375 := n2_; have GW375 := n3_; have GE375 := n4_; have NB374_375 := n5_; have NB375_374 := n6_; clear n0_ n1_ n2_ n3_ n4_ n5_ n6_; clear hb hbox hg) | ((with_reducible refine gate_dst (N := 21) rfl ?_); (with_reducible refine gate_callee (f := 10) rfl ?_); refine goesL_ (some 21) rfl rfl Tryd.func10 (by kernel_rfl) rfl #[] rfl (by (try simp only [List.map_toArray, List.map_cons, List.map_nil]); first | done | rfl | (simp only [List.length_drop, List.length_take]; rfl)) ?_; (with_reducible refine (curtilagelaw02_awake.calls k  t376 _ A5.out (tab_on HTAB.out (by repeat (first | (with_reducible first | exact HB.out | apply below_alloc | apply pw_below_drewN | apply below_drew1 | refine below_set ?_ GE374.out | refine below_set ?_ GE375.out) | exact HB.out)))).mono ?_); rintro e w11 ⟨rfl, hb⟩; refine ⟨_, rfl, ?_⟩; have n0_ := Aside0.mk (blk_below (g := gb374) (o := .cells #[.int .u64 a0_0, .int .u64 a0_1, .int .u64 a0_2, .int .i64 a0_3, .int .i64 a0_4, .bool a0_5] 24 (0, 0)) (by (with_reducible repeat (first | refine blk_drewN ?_ _ | refine blk_drew ?_ | refine blk_alloc ?_ _)); exact BK374.out) hb); have n1_ := Aside0.mk (blk_below (g := gb375) (o := .cells #[.int .u64 a1_0, .int .u64 a1_1, .int .u64 a1_2, .int .i64 a1_3, .int .i64 a1_4, .bool a1_5] 24 (0, 0)) (by (with_reducible repeat (first | refine blk_drewN ?_ _ | refine blk_drew ?_ | refine blk_alloc ?_ _)); exact BK375.out) hb); have n2_ := Aside0.mk (below_step (by repeat (first | (with_reducible first | exact HB.out | apply below_alloc | apply pw_below_drewN | apply below_drew1 | refine below_set ?_ GE374.out | refine below_set ?_ GE375.out) | exact HB.out)) hb); clear BK374; clear BK375; clear HB; have BK374 := n0_; have BK375 := n1_; have HB := n2_; clear n0_ n1_ n2_; (try clear hb); (try clear hb2); (try clear hk); (try clear hi); have hnb12 := NB374_375.out; have hnc12 := NB375_374.out; obtain ⟨hcz13_0, hcz13_1, hcz13_2, hcz13_3, hcz13_4, hcz13_5, hfz13_0, hfz13_1, hfz13_2, hfz13_3, hfz13_4, hfz13_5⟩ := cells6 BK374.out) | ((with_reducible refine gate_dst (N := 23) rfl ?_); (with_reducible refine gate_callee (f := 11) rfl ?_); refine goesL_ (some 23) rfl rfl Tryd.func11 (by kernel_rfl) rfl #[.agg #[.int .u64 a0_0, .int .u64 a0_1, .int .u64 a0_2, .int .i64 a0_3, .int .i64 a0_4, .bool a0_5]] rfl (by (try simp only [List.map_toArray, List.map_cons, List.map_nil]); first | done | rfl | (simp only [List.length_drop, List.length_take]; rfl)) ?_; (with_reducible refine (curtilageref02_Right.calls a0_0 a0_1 a0_2 a0_3 a0_4 a0_5 t377 _ A6.out).mono ?_); rintro e w14 ⟨rfl, hb⟩; refine ⟨_, rfl, ?_⟩; have n0_ := Aside0.mk (blk_below (g := gb374) (o := .cells #[.int .u64 a0_0, .int .u64 a0_1, .int .u64 a0_2, .int .i64 a0_3, .int .i64 a0_4, .bool a0_5] 24 (0, 0)) (by (with_reducible repeat (first | refine blk_drewN ?_ _ | refine blk_drew ?_ | refine blk_alloc ?_ _)); exact BK374.out) hb); have n1_ := Aside0.mk (blk_below (g := gb375) (o := .cells #[.int .u64 a1_0, .int .u64 a1_1, .int .u64 a1_2, .int .i64 a1_3, .int .i64 a1_4, .bool a1_5] 24 (0, 0)) (by (with_reducible repeat (first | refine blk_drewN ?_ _ | refine blk_drew ?_ | refine blk_alloc ?_ _)); exact BK375.out) hb); have n2_ := Aside0.mk (below_step (by repeat (first | (with_reducible first | exact HB.out | apply below_alloc | apply pw_below_drewN | apply below_drew1 | refine below_set ?_ GE374.out | refine below_set ?_ GE375.out) | exact HB.out)) hb); clear BK374; clear BK375; clear HB; have BK374 := n0_; have BK375 := n1_; have HB := n2_; clear n0_ n1_ n2_; (try clear hb); (try clear hb2); (try clear hk); (try clear hi); obtain ⟨hcz15_0, hcz15_1, hcz15_2, hcz15_3, hcz15_4, hcz15_5, hfz15_0, hfz15_1, hfz15_2, hfz15_3, hfz15_4, hfz15_5⟩ := cells6 BK375.out) | ((with_reducible refine gate_dst (N := 25) rfl ?_); (with_reducible refine gate_callee (f := 11) rfl ?_); refine goesL_ (some 25) rfl rfl Tryd.func11 (by kernel_rfl) rfl #[.agg #[.int .u64 a1_0, .int .u64 a1_1, .int .u64 a1_2, .int .i64 a1_3, .int .i64 a1_4, .bool a1_5]] rfl (by (try simp only [List.map_toArray, List.map_cons, List.map_nil]); first | done | rfl | (simp only [List.length_drop, List.length_take]; rfl)) ?_; (with_reducible refine (curtilageref02_Right.calls a1_0 a1_1 a1_2 a1_3 a1_4 a1_5 t378 _ A7.out).mono ?_); rintro e w16 ⟨rfl, hb⟩; refine ⟨_, rfl, ?_⟩; have n0_ := Aside0.mk (blk_below (g := gb374) (o := .cells #[.int .u64 a0_0, .int .u64 a0_1, .int .u64 a0_2, .int .i64 a0_3, .int .i64 a0_4, .bool a0_5] 24 (0, 0)) (by (with_reducible repeat (first | refine blk_drewN ?_ _ | refine blk_drew ?_ | refine blk_alloc ?_ _)); exact BK374.out) hb); have n1_ := Aside0.mk (blk_below (g := gb375) (o := .cells #[.int .u64 a1_0, .int .u64 a1_1, .int .u64 a1_2, .int .i64 a1_3, .int .i64 a1_4, .bool a1_5] 24 (0, 0)) (by (with_reducible repeat (first | refine blk_drewN ?_ _ | refine blk_drew ?_ | refine blk_alloc ?_ _)); exact BK375.out) hb); have n2_ := Aside0.mk (below_step (by repeat (first | (with_reducible first | exact HB.out | apply below_alloc | apply pw_below_drewN | apply below_drew1 | refine below_set ?_ GE374.out | refine below_set ?_ GE375.out) | exact HB.out)) hb); clear BK374; clear BK375; clear HB; have BK374 := n0_; have BK375 := n1_; have HB := n2_; clear n0_ n1_ n2_; (try clear hb); (try clear hb2); (try clear hk); (try clear hi)))
 (try simp only [Act.put, List.setIfInBounds_toArray, List.set_cons_zero, List.set_cons_succ])
 go_cut [39] (fun v39 wc => ∃ (kq : Nat) (x39_7 : Bool), v39 = .bool x39_7 ∧ Aside0 (curtilagelaw02_CapSealed.j0 kq a2 a3 t376 x39_7 a0_0 a0_1 a0_2 a0_3 a0_4 a0_5 a1_0 a1_1 a1_2 a1_3 a1_4 a1_5 = some r) ∧ Aside0 (kq ≤ k) ∧ Aside0 (wc.heap[gb374]? = some (.cells #[.int .u64 a0_0, .int .u64 a0_1, .int .u64 a0_2, .int .i64 a0_3, .int .i64 a0_4, .bool a0_5] 24 (0, 0))) ∧ Aside0 (wc.heap[gb375]? = some (.cells #[.int .u64 a1_0, .int .u64 a1_1, .int .u64 a1_2, .int .i64 a1_3, .int .i64 a1_4, .bool a1_5] 24 (0, 0))) ∧ Aside0 (Below w.heap.size w wc))
 case first =>
  have H := HC8.out
  clear HC8
  by_cases c17 : t377 = true
  ·subst c17
   have H1 : (if t378 = true then (if a3 < 0 then (curtilagelaw02_CapSealed.j0 k a2 a3 t376 true a0_0 a0_1 a0_2 a0_3 a0_4 a0_5 a1_0 a1_1 a1_2 a1_3 a1_4 a1_5) else (curtilagelaw02_CapSealed.j0 k a2 a3 t376 (decide (a3 > 255)) a0_0 a0_1 a0_2 a0_3 a0_4 a0_5 a1_0 a1_1 a1_2 a1_3 a1_4 a1_5)) else (curtilagelaw02_CapSealed.j0 k a2 a3 t376 true a0_0 a0_1 a0_2 a0_3 a0_4 a0_5 a1_0 a1_1 a1_2 a1_3 a1_4 a1_5)) = some r := by rw [if_pos rfl] at H; exact H
   clear H
   have H := H1
   clear H1
   by_cases c18 : t378 = true
   ·subst c18
    have H1 : (if a3 < 0 then (curtilagelaw02_CapSealed.j0 k a2 a3 t376 true a0_0 a0_1 a0_2 a0_3 a0_4 a0_5 a1_0 a1_1 a1_2 a1_3 a1_4 a1_5) else (curtilagelaw02_CapSealed.j0 k a2 a3 t376 (decide (a3 > 255)) a0_0 a0_1 a0_2 a0_3 a0_4 a0_5 a1_0 a1_1 a1_2 a1_3 a1_4 a1_5)) = some r := by rw [if_pos rfl] at H; exact H
    clear H
    have H := H1
    clear H1
    by_cases c19 : a3 < 0
    ·rw [if_pos c19] at H
     have c19b0 : decide (a3 < 0) = true := decide_eq_true c19
     clear c19
     (first | rw [c19b0] | (simp only [i64_w, i32_w]; rw [c19b0]) | skip)
     have H' := Aside0.mk H
     clear H
     go_wp2
     go_meet
     case rel => exact ⟨_, (true), (by first | rfl | (simp; done) | (simp [*]; done)), H', ⟨by first | omega | exact Nat.le_refl _⟩, ⟨by (with_reducible repeat (first | refine blk_drewN ?_ _ | refine blk_drew ?_ | refine blk_alloc ?_ _)); exact BK374.out⟩, ⟨by (with_reducible repeat (first | refine blk_drewN ?_ _ | refine blk_drew ?_ | refine blk_alloc ?_ _)); exact BK375.out⟩, ⟨by repeat (first | (with_reducible first | exact HB.out | apply below_alloc | apply pw_below_drewN | apply below_drew1 | refine below_set ?_ GE374.out | refine below_set ?_ GE375.out) | exact HB.out)⟩⟩
    ·rw [if_neg c19] at H
     have c19b0 : decide (a3 < 0) = false := decide_eq_false c19
     clear c19
     (first | rw [c19b0] | (simp only [i64_w, i32_w]; rw [c19b0]) | skip)
     have H' := Aside0.mk H
     clear H
     go_wp2
     go_meet
     case rel => exact ⟨_, (decide (a3 > 255)), (by first | rfl | (simp; done) | (simp [*]; done)), H', ⟨by first | omega | exact Nat.le_refl _⟩, ⟨by (with_reducible repeat (first | refine blk_drewN ?_ _ | refine blk_drew ?_ | refine blk_alloc ?_ _)); exact BK374.out⟩, ⟨by (with_reducible repeat (first | refine blk_drewN ?_ _ | refine blk_drew ?_ | refine blk_alloc ?_ _)); exact BK375.out⟩, ⟨by repeat (first | (with_reducible first | exact HB.out | apply below_alloc | apply pw_below_drewN | apply below_drew1 | refine below_set ?_ GE374.out | refine below_set ?_ GE375.out) | exact HB.out)⟩⟩
   ·replace c18 := Bool.eq_false_iff.mpr c18
    subst c18
    have H1 : (curtilagelaw02_CapSealed.j0 k a2 a3 t376 true a0_0 a0_1 a0_2 a0_3 a0_4 a0_5 a1_0 a1_1 a1_2 a1_3 a1_4 a1_5) = some r := by rw [if_neg (show ¬ (false = true) by decide)] at H; exact H
    clear H
    have H := H1
    clear H1
    have H' := Aside0.mk H
    clear H
    go_wp2
    go_meet
    case rel => exact ⟨_, (true), (by first | rfl | (simp; done) | (simp [*]; done)), H', ⟨by first | omega | exact Nat.le_refl _⟩, ⟨by (with_reducible repeat (first | refine blk_drewN ?_ _ | refine blk_drew ?_ | refine blk_alloc ?_ _)); exact BK374.out⟩, ⟨by (with_reducible repeat (first | refine blk_drewN ?_ _ | refine blk_drew ?_ | refine blk_alloc ?_ _)); exact BK375.out⟩, ⟨by repeat (first | (with_reducible first | exact HB.out | apply below_alloc | apply pw_below_drewN | apply below_drew1 | refine below_set ?_ GE374.out | refine below_set ?_ GE375.out) | exact HB.out)⟩⟩
  ·replace c17 := Bool.eq_false_iff.mpr c17
   subst c17
   have H1 : (curtilagelaw02_CapSealed.j0 k a2 a3 t376 true a0_0 a0_1 a0_2 a0_3 a0_4 a0_5 a1_0 a1_1 a1_2 a1_3 a1_4 a1_5) = some r := by rw [if_neg (show ¬ (false = true) by decide)] at H; exact H
   clear H
   have H := H1
   clear H1
   have H' := Aside0.mk H
   clear H
   go_wp2
   go_meet
   case rel => exact ⟨_, (true), (by first | rfl | (simp; done) | (simp [*]; done)), H', ⟨by first | omega | exact Nat.le_refl _⟩, ⟨by (with_reducible repeat (first | refine blk_drewN ?_ _ | refine blk_drew ?_ | refine blk_alloc ?_ _)); exact BK374.out⟩, ⟨by (with_reducible repeat (first | refine blk_drewN ?_ _ | refine blk_drew ?_ | refine blk_alloc ?_ _)); exact BK375.out⟩, ⟨by repeat (first | (with_reducible first | exact HB.out | apply below_alloc | apply pw_below_drewN | apply below_drew1 | refine below_set ?_ GE374.out | refine below_set ?_ GE375.out) | exact HB.out)⟩⟩
 case rest =>
  clear HC8
  try clear c1
  try clear p2
  try clear c5
  try clear c10
  try clear c11
  try clear c12
  try clear c17
  try clear c18
  try clear c19
  try clear c19b0
  try clear hcz13_0
  try clear hcz13_1
  try clear hcz13_2
  try clear hcz13_3
  try clear hcz13_4
  try clear hcz13_5
  try clear hcz15_0
  try clear hcz15_1
  try clear hcz15_2
  try clear hcz15_3
  try clear hcz15_4
  try clear hcz15_5
  try clear hfz13_0
  try clear hfz13_1
  try clear hfz13_2
  try clear hfz13_3
  try clear hfz13_4
  try clear hfz13_5
  try clear hfz15_0
  try clear hfz15_1
  try clear hfz15_2
  try clear hfz15_3
  try clear hfz15_4
  try clear hfz15_5
  obtain ⟨kq, x39_7, rfl, HA, HJ7, BK374, BK375, HB⟩ := hcut
  cases kq with
  | zero => exact absurd HA.out (by simp [curtilagelaw02_CapSealed.j0])
  | succ kj7 =>
   have H := HA.out
   clear HA
   simp only [curtilagelaw02_CapSealed.j0] at H
   by_cases c20 : x39_7 = true
   ·subst c20
    have H1 : (some t376) = some r := by rw [if_pos rfl] at H; exact H
    clear H
    have H := H1
    clear H1
    obtain rfl := Option.some.inj H
    go_wp2
    go_ret
    exact ⟨by first | rfl | (simp [errW_none, errW_some] <;> rfl) | (simp [*, errW_none, errW_some] <;> rfl), by repeat (first | (with_reducible first | exact HB.out | apply below_alloc | apply pw_below_drewN | apply below_drew1 | refine below_set ?_ GE374.out | refine below_set ?_ GE375.out) | exact HB.out)⟩
   ·replace c20 := Bool.eq_false_iff.mpr c20
    subst c20
    have H1 : ((cap_Seal.f a0_0 a0_1 a0_2 a0_3 a0_4 a0_5 a1_0 a1_1 a1_2 a1_3 a1_4 a1_5).bind fun bt379 => (if bt379.2.2.2.2.2 = true then ((cap_Check.f bt379.1 bt379.2.1 bt379.2.2.1 bt379.2.2.2.1 bt379.2.2.2.2.1 bt379.2.2.2.2.2 a2 a3).bind fun t386 => ((cap_Move.f bt379.1 bt379.2.1 bt379.2.2.1 bt379.2.2.2.1 bt379.2.2.2.2.1 bt379.2.2.2.2.2 a2).bind fun bt387 => ((cap_Bound.f bt379.1 bt379.2.1 bt379.2.2.1 bt379.2.2.2.1 bt379.2.2.2.2.1 bt379.2.2.2.2.2 a2).bind fun bt394 => ((cap_And.f bt379.1 bt379.2.1 bt379.2.2.1 bt379.2.2.2.1 bt379.2.2.2.2.1 bt379.2.2.2.2.2 a3).bind fun bt401 => ((cap_Seal.f bt379.1 bt379.2.1 bt379.2.2.1 bt379.2.2.2.1 bt379.2.2.2.2.1 bt379.2.2.2.2.2 a1_0 a1_1 a1_2 a1_3 a1_4 a1_5).bind fun bt408 => ((cap_Unseal.f bt379.1 bt379.2.1 bt379.2.2.1 bt379.2.2.2.1 bt379.2.2.2.2.1 bt379.2.2.2.2.2 a1_0 a1_1 a1_2 a1_3 a1_4 a1_5).bind fun bt415 => ((cap_Move.f a1_0 a1_1 a1_2 a1_3 a1_4 a1_5 a2).bind fun bt422 => ((cap_Unseal.f bt379.1 bt379.2.1 bt379.2.2.1 bt379.2.2.2.1 bt379.2.2.2.2.1 bt379.2.2.2.2.2 bt422.1 bt422.2.1 bt422.2.2.1 bt422.2.2.2.1 bt422.2.2.2.2.1 bt422.2.2.2.2.2).bind fun bt428 => (if t376 = true then (if t386 = 21 then (if bt387.2.2.2.2.2 = true then (some false) else (if bt394.2.2.2.2.2 = true then (some false) else (if bt401.2.2.2.2.2 = true then (some false) else (if bt408.2.2.2.2.2 = true then (some false) else (if ((bt415.1 == a0_0 && (bt415.2.1 == a0_1 && (bt415.2.2.1 == a0_2 && (bt415.2.2.2.1 == a0_3 && (bt415.2.2.2.2.1 == a0_4 && (bt415.2.2.2.2.2 == a0_5)))))) == ((Go.bits .and .i64 a1_3 64) != 0)) = true then (if (Go.bits .and .i64 a1_3 64) = 0 then (if bt415.2.2.2.2.2 = true then (some false) else (if a2 = a1_2 then (some true) else (some (!bt428.2.2.2.2.2)))) else (if a2 = a1_2 then (some true) else (some (!bt428.2.2.2.2.2)))) else (some false)))))) else (some false)) else (some false)))))))))) else (some t376))) = some r := by rw [if_neg (show ¬ (false = true) by decide)] at H; exact H
    clear H
    have H := H1
    clear H1
    replace H := Option.bind_eq_some_iff.mp H
    obtain ⟨⟨t379, t380, t381, t382, t383, t384⟩, A210, H⟩ := H
    replace H : (if t384 = true then ((cap_Check.f t379 t380 t381 t382 t383 t384 a2 a3).bind fun t386 => ((cap_Move.f t379 t380 t381 t382 t383 t384 a2).bind fun bt387 => ((cap_Bound.f t379 t380 t381 t382 t383 t384 a2).bind fun bt394 => ((cap_And.f t379 t380 t381 t382 t383 t384 a3).bind fun bt401 => ((cap_Seal.f t379 t380 t381 t382 t383 t384 a1_0 a1_1 a1_2 a1_3 a1_4 a1_5).bind fun bt408 => ((cap_Unseal.f t379 t380 t381 t382 t383 t384 a1_0 a1_1 a1_2 a1_3 a1_4 a1_5).bind fun bt415 => ((cap_Move.f a1_0 a1_1 a1_2 a1_3 a1_4 a1_5 a2).bind fun bt422 => ((cap_Unseal.f t379 t380 t381 t382 t383 t384 bt422.1 bt422.2.1 bt422.2.2.1 bt422.2.2.2.1 bt422.2.2.2.2.1 bt422.2.2.2.2.2).bind fun bt428 => (if t376 = true then (if t386 = 21 then (if bt387.2.2.2.2.2 = true then (some false) else (if bt394.2.2.2.2.2 = true then (some false) else (if bt401.2.2.2.2.2 = true then (some false) else (if bt408.2.2.2.2.2 = true then (some false) else (if ((bt415.1 == a0_0 && (bt415.2.1 == a0_1 && (bt415.2.2.1 == a0_2 && (bt415.2.2.2.1 == a0_3 && (bt415.2.2.2.2.1 == a0_4 && (bt415.2.2.2.2.2 == a0_5)))))) == ((Go.bits .and .i64 a1_3 64) != 0)) = true then (if (Go.bits .and .i64 a1_3 64) = 0 then (if bt415.2.2.2.2.2 = true then (some false) else (if a2 = a1_2 then (some true) else (some (!bt428.2.2.2.2.2)))) else (if a2 = a1_2 then (some true) else (some (!bt428.2.2.2.2.2)))) else (some false)))))) else (some false)) else (some false)))))))))) else (some t376)) = some r := H
    have A21 := Aside0.mk A210
    clear A210
    by_cases c22 : t384 = true
    ·subst c22
     have H1 : ((cap_Check.f t379 t380 t381 t382 t383 true a2 a3).bind fun t386 => ((cap_Move.f t379 t380 t381 t382 t383 true a2).bind fun bt387 => ((cap_Bound.f t379 t380 t381 t382 t383 true a2).bind fun bt394 => ((cap_And.f t379 t380 t381 t382 t383 true a3).bind fun bt401 => ((cap_Seal.f t379 t380 t381 t382 t383 true a1_0 a1_1 a1_2 a1_3 a1_4 a1_5).bind fun bt408 => ((cap_Unseal.f t379 t380 t381 t382 t383 true a1_0 a1_1 a1_2 a1_3 a1_4 a1_5).bind fun bt415 => ((cap_Move.f a1_0 a1_1 a1_2 a1_3 a1_4 a1_5 a2).bind fun bt422 => ((cap_Unseal.f t379 t380 t381 t382 t383 true bt422.1 bt422.2.1 bt422.2.2.1 bt422.2.2.2.1 bt422.2.2.2.2.1 bt422.2.2.2.2.2).bind fun bt428 => (if t376 = true then (if t386 = 21 then (if bt387.2.2.2.2.2 = true then (some false) else (if bt394.2.2.2.2.2 = true then (some false) else (if bt401.2.2.2.2.2 = true then (some false) else (if bt408.2.2.2.2.2 = true then (some false) else (if ((bt415.1 == a0_0 && (bt415.2.1 == a0_1 && (bt415.2.2.1 == a0_2 && (bt415.2.2.2.1 == a0_3 && (bt415.2.2.2.2.1 == a0_4 && (bt415.2.2.2.2.2 == a0_5)))))) == ((Go.bits .and .i64 a1_3 64) != 0)) = true then (if (Go.bits .and .i64 a1_3 64) = 0 then (if bt415.2.2.2.2.2 = true then (some false) else (if a2 = a1_2 then (some true) else (some (!bt428.2.2.2.2.2)))) else (if a2 = a1_2 then (some true) else (some (!bt428.2.2.2.2.2)))) else (some false)))))) else (some false)) else (some false)))))))))) = some r := by rw [if_pos rfl] at H; exact H
     clear H
     have H := H1
     clear H1
     replace H := Option.bind_eq_some_iff.mp H
     obtain ⟨t386, A230, H⟩ := H
     replace H : ((cap_Move.f t379 t380 t381 t382 t383 true a2).bind fun bt387 => ((cap_Bound.f t379 t380 t381 t382 t383 true a2).bind fun bt394 => ((cap_And.f t379 t380 t381 t382 t383 true a3).bind fun bt401 => ((cap_Seal.f t379 t380 t381 t382 t383 true a1_0 a1_1 a1_2 a1_3 a1_4 a1_5).bind fun bt408 => ((cap_Unseal.f t379 t380 t381 t382 t383 true a1_0 a1_1 a1_2 a1_3 a1_4 a1_5).bind fun bt415 => ((cap_Move.f a1_0 a1_1 a1_2 a1_3 a1_4 a1_5 a2).bind fun bt422 => ((cap_Unseal.f t379 t380 t381 t382 t383 true bt422.1 bt422.2.1 bt422.2.2.1 bt422.2.2.2.1 bt422.2.2.2.2.1 bt422.2.2.2.2.2).bind fun bt428 => (if t376 = true then (if t386 = 21 then (if bt387.2.2.2.2.2 = true then (some false) else (if bt394.2.2.2.2.2 = true then (some false) else (if bt401.2.2.2.2.2 = true then (some false) else (if bt408.2.2.2.2.2 = true then (some false) else (if ((bt415.1 == a0_0 && (bt415.2.1 == a0_1 && (bt415.2.2.1 == a0_2 && (bt415.2.2.2.1 == a0_3 && (bt415.2.2.2.2.1 == a0_4 && (bt415.2.2.2.2.2 == a0_5)))))) == ((Go.bits .and .i64 a1_3 64) != 0)) = true then (if (Go.bits .and .i64 a1_3 64) = 0 then (if bt415.2.2.2.2.2 = true then (some false) else (if a2 = a1_2 then (some true) else (some (!bt428.2.2.2.2.2)))) else (if a2 = a1_2 then (some true) else (some (!bt428.2.2.2.2.2)))) else (some false)))))) else (some false)) else (some false))))))))) = some r := H
     have A23 := Aside0.mk A230
     clear A230
     replace H := Option.bind_eq_some_iff.mp H
     obtain ⟨⟨t387, t388, t389, t390, t391, t392⟩, A240, H⟩ := H
     replace H : ((cap_Bound.f t379 t380 t381 t382 t383 true a2).bind fun bt394 => ((cap_And.f t379 t380 t381 t382 t383 true a3).bind fun bt401 => ((cap_Seal.f t379 t380 t381 t382 t383 true a1_0 a1_1 a1_2 a1_3 a1_4 a1_5).bind fun bt408 => ((cap_Unseal.f t379 t380 t381 t382 t383 true a1_0 a1_1 a1_2 a1_3 a1_4 a1_5).bind fun bt415 => ((cap_Move.f a1_0 a1_1 a1_2 a1_3 a1_4 a1_5 a2).bind fun bt422 => ((cap_Unseal.f t379 t380 t381 t382 t383 true bt422.1 bt422.2.1 bt422.2.2.1 bt422.2.2.2.1 bt422.2.2.2.2.1 bt422.2.2.2.2.2).bind fun bt428 => (if t376 = true then (if t386 = 21 then (if t392 = true then (some false) else (if bt394.2.2.2.2.2 = true then (some false) else (if bt401.2.2.2.2.2 = true then (some false) else (if bt408.2.2.2.2.2 = true then (some false) else (if ((bt415.1 == a0_0 && (bt415.2.1 == a0_1 && (bt415.2.2.1 == a0_2 && (bt415.2.2.2.1 == a0_3 && (bt415.2.2.2.2.1 == a0_4 && (bt415.2.2.2.2.2 == a0_5)))))) == ((Go.bits .and .i64 a1_3 64) != 0)) = true then (if (Go.bits .and .i64 a1_3 64) = 0 then (if bt415.2.2.2.2.2 = true then (some false) else (if a2 = a1_2 then (some true) else (some (!bt428.2.2.2.2.2)))) else (if a2 = a1_2 then (some true) else (some (!bt428.2.2.2.2.2)))) else (some false)))))) else (some false)) else (some false)))))))) = some r := H
     have A24 := Aside0.mk A240
     clear A240
     replace H := Option.bind_eq_some_iff.mp H
     obtain ⟨⟨t394, t395, t396, t397, t398, t399⟩, A250, H⟩ := H
     replace H : ((cap_And.f t379 t380 t381 t382 t383 true a3).bind fun bt401 => ((cap_Seal.f t379 t380 t381 t382 t383 true a1_0 a1_1 a1_2 a1_3 a1_4 a1_5).bind fun bt408 => ((cap_Unseal.f t379 t380 t381 t382 t383 true a1_0 a1_1 a1_2 a1_3 a1_4 a1_5).bind fun bt415 => ((cap_Move.f a1_0 a1_1 a1_2 a1_3 a1_4 a1_5 a2).bind fun bt422 => ((cap_Unseal.f t379 t380 t381 t382 t383 true bt422.1 bt422.2.1 bt422.2.2.1 bt422.2.2.2.1 bt422.2.2.2.2.1 bt422.2.2.2.2.2).bind fun bt428 => (if t376 = true then (if t386 = 21 then (if t392 = true then (some false) else (if t399 = true then (some false) else (if bt401.2.2.2.2.2 = true then (some false) else (if bt408.2.2.2.2.2 = true then (some false) else (if ((bt415.1 == a0_0 && (bt415.2.1 == a0_1 && (bt415.2.2.1 == a0_2 && (bt415.2.2.2.1 == a0_3 && (bt415.2.2.2.2.1 == a0_4 && (bt415.2.2.2.2.2 == a0_5)))))) == ((Go.bits .and .i64 a1_3 64) != 0)) = true then (if (Go.bits .and .i64 a1_3 64) = 0 then (if bt415.2.2.2.2.2 = true then (some false) else (if a2 = a1_2 then (some true) else (some (!bt428.2.2.2.2.2)))) else (if a2 = a1_2 then (some true) else (some (!bt428.2.2.2.2.2)))) else (some false)))))) else (some false)) else (some false))))))) = some r := H
     have A25 := Aside0.mk A250
     clear A250
     replace H := Option.bind_eq_some_iff.mp H
     obtain ⟨⟨t401, t402, t403, t404, t405, t406⟩, A260, H⟩ := H
     replace H : ((cap_Seal.f t379 t380 t381 t382 t383 true a1_0 a1_1 a1_2 a1_3 a1_4 a1_5).bind fun bt408 => ((cap_Unseal.f t379 t380 t381 t382 t383 true a1_0 a1_1 a1_2 a1_3 a1_4 a1_5).bind fun bt415 => ((cap_Move.f a1_0 a1_1 a1_2 a1_3 a1_4 a1_5 a2).bind fun bt422 => ((cap_Unseal.f t379 t380 t381 t382 t383 true bt422.1 bt422.2.1 bt422.2.2.1 bt422.2.2.2.1 bt422.2.2.2.2.1 bt422.2.2.2.2.2).bind fun bt428 => (if t376 = true then (if t386 = 21 then (if t392 = true then (some false) else (if t399 = true then (some false) else (if t406 = true then (some false) else (if bt408.2.2.2.2.2 = true then (some false) else (if ((bt415.1 == a0_0 && (bt415.2.1 == a0_1 && (bt415.2.2.1 == a0_2 && (bt415.2.2.2.1 == a0_3 && (bt415.2.2.2.2.1 == a0_4 && (bt415.2.2.2.2.2 == a0_5)))))) == ((Go.bits .and .i64 a1_3 64) != 0)) = true then (if (Go.bits .and .i64 a1_3 64) = 0 then (if bt415.2.2.2.2.2 = true then (some false) else (if a2 = a1_2 then (some true) else (some (!bt428.2.2.2.2.2)))) else (if a2 = a1_2 then (some true) else (some (!bt428.2.2.2.2.2)))) else (some false)))))) else (some false)) else (some false)))))) = some r := H
     have A26 := Aside0.mk A260
     clear A260
     replace H := Option.bind_eq_some_iff.mp H
     obtain ⟨⟨t408, t409, t410, t411, t412, t413⟩, A270, H⟩ := H
     replace H : ((cap_Unseal.f t379 t380 t381 t382 t383 true a1_0 a1_1 a1_2 a1_3 a1_4 a1_5).bind fun bt415 => ((cap_Move.f a1_0 a1_1 a1_2 a1_3 a1_4 a1_5 a2).bind fun bt422 => ((cap_Unseal.f t379 t380 t381 t382 t383 true bt422.1 bt422.2.1 bt422.2.2.1 bt422.2.2.2.1 bt422.2.2.2.2.1 bt422.2.2.2.2.2).bind fun bt428 => (if t376 = true then (if t386 = 21 then (if t392 = true then (some false) else (if t399 = true then (some false) else (if t406 = true then (some false) else (if t413 = true then (some false) else (if ((bt415.1 == a0_0 && (bt415.2.1 == a0_1 && (bt415.2.2.1 == a0_2 && (bt415.2.2.2.1 == a0_3 && (bt415.2.2.2.2.1 == a0_4 && (bt415.2.2.2.2.2 == a0_5)))))) == ((Go.bits .and .i64 a1_3 64) != 0)) = true then (if (Go.bits .and .i64 a1_3 64) = 0 then (if bt415.2.2.2.2.2 = true then (some false) else (if a2 = a1_2 then (some true) else (some (!bt428.2.2.2.2.2)))) else (if a2 = a1_2 then (some true) else (some (!bt428.2.2.2.2.2)))) else (some false)))))) else (some false)) else (some false))))) = some r := H
     have A27 := Aside0.mk A270
     clear A270
     replace H := Option.bind_eq_some_iff.mp H
     obtain ⟨⟨t415, t416, t417, t418, t419, t420⟩, A280, H⟩ := H
     replace H : ((cap_Move.f a1_0 a1_1 a1_2 a1_3 a1_4 a1_5 a2).bind fun bt422 => ((cap_Unseal.f t379 t380 t381 t382 t383 true bt422.1 bt422.2.1 bt422.2.2.1 bt422.2.2.2.1 bt422.2.2.2.2.1 bt422.2.2.2.2.2).bind fun bt428 => (if t376 = true then (if t386 = 21 then (if t392 = true then (some false) else (if t399 = true then (some false) else (if t406 = true then (some false) else (if t413 = true then (some false) else (if ((t415 == a0_0 && (t416 == a0_1 && (t417 == a0_2 && (t418 == a0_3 && (t419 == a0_4 && (t420 == a0_5)))))) == ((Go.bits .and .i64 a1_3 64) != 0)) = true then (if (Go.bits .and .i64 a1_3 64) = 0 then (if t420 = true then (some false) else (if a2 = a1_2 then (some true) else (some (!bt428.2.2.2.2.2)))) else (if a2 = a1_2 then (some true) else (some (!bt428.2.2.2.2.2)))) else (some false)))))) else (some false)) else (some false)))) = some r := H
     have A28 := Aside0.mk A280
     clear A280
     replace H := Option.bind_eq_some_iff.mp H
     obtain ⟨⟨t422, t423, t424, t425, t426, t427⟩, A290, H⟩ := H
     replace H : ((cap_Unseal.f t379 t380 t381 t382 t383 true t422 t423 t424 t425 t426 t427).bind fun bt428 => (if t376 = true then (if t386 = 21 then (if t392 = true then (some false) else (if t399 = true then (some false) else (if t406 = true then (some false) else (if t413 = true then (some false) else (if ((t415 == a0_0 && (t416 == a0_1 && (t417 == a0_2 && (t418 == a0_3 && (t419 == a0_4 && (t420 == a0_5)))))) == ((Go.bits .and .i64 a1_3 64) != 0)) = true then (if (Go.bits .and .i64 a1_3 64) = 0 then (if t420 = true then (some false) else (if a2 = a1_2 then (some true) else (some (!bt428.2.2.2.2.2)))) else (if a2 = a1_2 then (some true) else (some (!bt428.2.2.2.2.2)))) else (some false)))))) else (some false)) else (some false))) = some r := H
     have A29 := Aside0.mk A290
     clear A290
     replace H := Option.bind_eq_some_iff.mp H
     obtain ⟨⟨t428, t429, t430, t431, t432, t433⟩, A300, H⟩ := H
     replace H : (if t376 = true then (if t386 = 21 then (if t392 = true then (some false) else (if t399 = true then (some false) else (if t406 = true then (some false) else (if t413 = true then (some false) else (if ((t415 == a0_0 && (t416 == a0_1 && (t417 == a0_2 && (t418 == a0_3 && (t419 == a0_4 && (t420 == a0_5)))))) == ((Go.bits .and .i64 a1_3 64) != 0)) = true then (if (Go.bits .and .i64 a1_3 64) = 0 then (if t420 = true then (some false) else (if a2 = a1_2 then (some true) else (some (!t433)))) else (if a2 = a1_2 then (some true) else (some (!t433)))) else (some false)))))) else (some false)) else (some false)) = some r := H
     have A30 := Aside0.mk A300
     clear A300
     by_cases c31 : t376 = true
     ·subst c31
      have H1 : (if t386 = 21 then (if t392 = true then (some false) else (if t399 = true then (some false) else (if t406 = true then (some false) else (if t413 = true then (some false) else (if ((t415 == a0_0 && (t416 == a0_1 && (t417 == a0_2 && (t418 == a0_3 && (t419 == a0_4 && (t420 == a0_5)))))) == ((Go.bits .and .i64 a1_3 64) != 0)) = true then (if (Go.bits .and .i64 a1_3 64) = 0 then (if t420 = true then (some false) else (if a2 = a1_2 then (some true) else (some (!t433)))) else (if a2 = a1_2 then (some true) else (some (!t433)))) else (some false)))))) else (some false)) = some r := by rw [if_pos rfl] at H; exact H
      clear H
      have H := H1
      clear H1
      by_cases c32 : t386 = 21
      ·rw [if_pos c32] at H
       have c32b0 : (t386 == 21) = true := beq_iff_eq.mpr c32
       have c32b1 : (t386 != 21) = false := bne_eq_false_iff_eq.mpr c32
       clear c32
       by_cases c33 : t392 = true
       ·subst c33
        have H1 : (some false) = some r := by rw [if_pos rfl] at H; exact H
        clear H
        have H := H1
        clear H1
        exact absurd ((Option.some.inj H).trans HT.out) (by decide)
       ·replace c33 := Bool.eq_false_iff.mpr c33
        subst c33
        have H1 : (if t399 = true then (some false) else (if t406 = true then (some false) else (if t413 = true then (some false) else (if ((t415 == a0_0 && (t416 == a0_1 && (t417 == a0_2 && (t418 == a0_3 && (t419 == a0_4 && (t420 == a0_5)))))) == ((Go.bits .and .i64 a1_3 64) != 0)) = true then (if (Go.bits .and .i64 a1_3 64) = 0 then (if t420 = true then (some false) else (if a2 = a1_2 then (some true) else (some (!t433)))) else (if a2 = a1_2 then (some true) else (some (!t433)))) else (some false))))) = some r := by rw [if_neg (show ¬ (false = true) by decide)] at H; exact H
        clear H
        have H := H1
        clear H1
        by_cases c112 : t399 = true
        ·subst c112
         have H1 : (some false) = some r := by rw [if_pos rfl] at H; exact H
         clear H
         have H := H1
         clear H1
         exact absurd ((Option.some.inj H).trans HT.out) (by decide)
        ·replace c112 := Bool.eq_false_iff.mpr c112
         subst c112
         have H1 : (if t406 = true then (some false) else (if t413 = true then (some false) else (if ((t415 == a0_0 && (t416 == a0_1 && (t417 == a0_2 && (t418 == a0_3 && (t419 == a0_4 && (t420 == a0_5)))))) == ((Go.bits .and .i64 a1_3 64) != 0)) = true then (if (Go.bits .and .i64 a1_3 64) = 0 then (if t420 = true then (some false) else (if a2 = a1_2 then (some true) else (some (!t433)))) else (if a2 = a1_2 then (some true) else (some (!t433)))) else (some false)))) = some r := by rw [if_neg (show ¬ (false = true) by decide)] at H; exact H
         clear H
         have H := H1
         clear H1
         by_cases c193 : t406 = true
         ·subst c193
          have H1 : (some false) = some r := by rw [if_pos rfl] at H; exact H
          clear H
          have H := H1
          clear H1
          exact absurd ((Option.some.inj H).trans HT.out) (by decide)
         ·replace c193 := Bool.eq_false_iff.mpr c193
          subst c193
          have H1 : (if t413 = true then (some false) else (if ((t415 == a0_0 && (t416 == a0_1 && (t417 == a0_2 && (t418 == a0_3 && (t419 == a0_4 && (t420 == a0_5)))))) == ((Go.bits .and .i64 a1_3 64) != 0)) = true then (if (Go.bits .and .i64 a1_3 64) = 0 then (if t420 = true then (some false) else (if a2 = a1_2 then (some true) else (some (!t433)))) else (if a2 = a1_2 then (some true) else (some (!t433)))) else (some false))) = some r := by rw [if_neg (show ¬ (false = true) by decide)] at H; exact H
          clear H
          have H := H1
          clear H1
          by_cases c276 : t413 = true
          ·subst c276
           have H1 : (some false) = some r := by rw [if_pos rfl] at H; exact H
           clear H
           have H := H1
           clear H1
           exact absurd ((Option.some.inj H).trans HT.out) (by decide)
          ·replace c276 := Bool.eq_false_iff.mpr c276
           subst c276
           have H1 : (if ((t415 == a0_0 && (t416 == a0_1 && (t417 == a0_2 && (t418 == a0_3 && (t419 == a0_4 && (t420 == a0_5)))))) == ((Go.bits .and .i64 a1_3 64) != 0)) = true then (if (Go.bits .and .i64 a1_3 64) = 0 then (if t420 = true then (some false) else (if a2 = a1_2 then (some true) else (some (!t433)))) else (if a2 = a1_2 then (some true) else (some (!t433)))) else (some false)) = some r := by rw [if_neg (show ¬ (false = true) by decide)] at H; exact H
           clear H
           have H := H1
           clear H1
           by_cases c361 : ((t415 == a0_0 && (t416 == a0_1 && (t417 == a0_2 && (t418 == a0_3 && (t419 == a0_4 && (t420 == a0_5)))))) == ((Go.bits .and .i64 a1_3 64) != 0)) = true
           ·rw [if_pos c361] at H
            have c361b0 : ((t415 == a0_0 && (t416 == a0_1 && (t417 == a0_2 && (t418 == a0_3 && (t419 == a0_4 && (t420 == a0_5)))))) == ((Go.bits .and .i64 a1_3 64) != 0)) = true := c361
            (try (have c361b1 : decide ((t415 == a0_0 && (t416 == a0_1 && (t417 == a0_2 && (t418 == a0_3 && (t419 == a0_4 && (t420 == a0_5)))))) = ((Go.bits .and .i64 a1_3 64) != 0)) = true := by simpa using c361))
            (try (have c361b2 : ((t415 == a0_0 && (t416 == a0_1 && (t417 == a0_2 && (t418 == a0_3 && (t419 == a0_4 && (t420 == a0_5)))))) == ((Go.bits .and .i64 a1_3 64) != 0)) = true := by simpa using c361))
            clear c361
            have HE := Aside0.mk H
            clear H
            obtain rfl : r = true := HT.out
            have hnb632 := NB374_375.out
            have hnc632 := NB375_374.out
            have hcz633_0 : wc.cell? ⟨gb374, 0, none⟩ = some (.int .u64 a0_0) := (blk_cell BK374.out 0).trans rfl
            have hcz633_1 : wc.cell? ⟨gb374, 1, none⟩ = some (.int .u64 a0_1) := (blk_cell BK374.out 1).trans rfl
            have hcz633_2 : wc.cell? ⟨gb374, 2, none⟩ = some (.int .u64 a0_2) := (blk_cell BK374.out 2).trans rfl
            have hcz633_3 : wc.cell? ⟨gb374, 3, none⟩ = some (.int .i64 a0_3) := (blk_cell BK374.out 3).trans rfl
            have hcz633_4 : wc.cell? ⟨gb374, 4, none⟩ = some (.int .i64 a0_4) := (blk_cell BK374.out 4).trans rfl
            have hcz633_5 : wc.cell? ⟨gb374, 5, none⟩ = some (.bool a0_5) := (blk_cell BK374.out 5).trans rfl
            have hfz633_0 := blk_frozen BK374.out 0
            have hfz633_1 := blk_frozen BK374.out 1
            have hfz633_2 := blk_frozen BK374.out 2
            have hfz633_3 := blk_frozen BK374.out 3
            have hfz633_4 := blk_frozen BK374.out 4
            have hfz633_5 := blk_frozen BK374.out 5
            have hcz634_0 : wc.cell? ⟨gb375, 0, none⟩ = some (.int .u64 a1_0) := (blk_cell BK375.out 0).trans rfl
            have hcz634_1 : wc.cell? ⟨gb375, 1, none⟩ = some (.int .u64 a1_1) := (blk_cell BK375.out 1).trans rfl
            have hcz634_2 : wc.cell? ⟨gb375, 2, none⟩ = some (.int .u64 a1_2) := (blk_cell BK375.out 2).trans rfl
            have hcz634_3 : wc.cell? ⟨gb375, 3, none⟩ = some (.int .i64 a1_3) := (blk_cell BK375.out 3).trans rfl
            have hcz634_4 : wc.cell? ⟨gb375, 4, none⟩ = some (.int .i64 a1_4) := (blk_cell BK375.out 4).trans rfl
            have hcz634_5 : wc.cell? ⟨gb375, 5, none⟩ = some (.bool a1_5) := (blk_cell BK375.out 5).trans rfl
            have hfz634_0 := blk_frozen BK375.out 0
            have hfz634_1 := blk_frozen BK375.out 1
            have hfz634_2 := blk_frozen BK375.out 2
            have hfz634_3 := blk_frozen BK375.out 3
            have hfz634_4 := blk_frozen BK375.out 4
            have hfz634_5 := blk_frozen BK375.out 5
            try go_wp2_with (first | ((with_reducible refine gate_dst (N := 43) rfl ?_); (with_reducible refine gate_callee (f := 12) rfl ?_); refine goesL_ (some 43) rfl rfl Tryd.func12 (by kernel_rfl) rfl #[.agg #[.int .u64 a0_0, .int .u64 a0_1, .int .u64 a0_2, .int .i64 a0_3, .int .i64 a0_4, .bool a0_5], .agg #[.int .u64 a1_0, .int .u64 a1_1, .int .u64 a1_2, .int .i64 a1_3, .int .i64 a1_4, .bool a1_5]] rfl (by (try simp only [List.map_toArray, List.map_cons, List.map_nil]); first | done | rfl | (simp only [List.length_drop, List.length_take]; rfl)) ?_; (with_reducible refine (cap_Seal.calls a0_0 a0_1 a0_2 a0_3 a0_4 a0_5 a1_0 a1_1 a1_2 a1_3 a1_4 a1_5 t379 t380 t381 t382 t383 true _ A21.out).mono ?_); rintro e w635 ⟨rfl, hb⟩; refine ⟨_, rfl, ?_⟩; have n0_ := Aside0.mk (blk_below (g := gb374) (o := .cells #[.int .u64 a0_0, .int .u64 a0_1, .int .u64 a0_2, .int .i64 a0_3, .int .i64 a0_4, .bool a0_5] 24 (0, 0)) (by (with_reducible repeat (first | refine blk_drewN ?_ _ | refine blk_drew ?_ | refine blk_alloc ?_ _)); exact BK374.out) hb); have n1_ := Aside0.mk (blk_below (g := gb375) (o := .cells #[.int .u64 a1_0, .int .u64 a1_1, .int .u64 a1_2, .int .i64 a1_3, .int .i64 a1_4, .bool a1_5] 24 (0, 0)) (by (with_reducible repeat (first | refine blk_drewN ?_ _ | refine blk_drew ?_ | refine blk_alloc ?_ _)); exact BK375.out) hb); have n2_ := Aside0.mk (below_step (by repeat (first | (with_reducible first | exact HB.out | apply below_alloc | apply pw_below_drewN | apply below_drew1 | refine below_set ?_ GE374.out | refine below_set ?_ GE375.out) | exact HB.out)) hb); clear BK374; clear BK375; clear HB; have BK374 := n0_; have BK375 := n1_; have HB := n2_; clear n0_ n1_ n2_; (try clear hb); (try clear hb2); (try clear hk); (try clear hi)) | ((with_reducible refine gate_dst (N := 12) rfl ?_); refine box_event ?hg (N := 12) ?hd (cs := #[.int .u64 0, .int .u64 0, .int .u64 0, .int .i64 0, .int .i64 0, .bool false]) (t := 24) ?hr ?_; (case hd => rfl); (case hg => rfl); (case hr => first | (go_simp; done) | (go_simp; rfl)); intro gb385 hg w636 hbox hb; have n0_ := Aside0.mk (blk_below (g := gb374) (o := .cells #[.int .u64 a0_0, .int .u64 a0_1, .int .u64 a0_2, .int .i64 a0_3, .int .i64 a0_4, .bool a0_5] 24 (0, 0)) (by (with_reducible repeat (first | refine blk_drewN ?_ _ | refine blk_drew ?_ | refine blk_alloc ?_ _)); exact BK374.out) hb); have n1_ := Aside0.mk (blk_below (g := gb375) (o := .cells #[.int .u64 a1_0, .int .u64 a1_1, .int .u64 a1_2, .int .i64 a1_3, .int .i64 a1_4, .bool a1_5] 24 (0, 0)) (by (with_reducible repeat (first | refine blk_drewN ?_ _ | refine blk_drew ?_ | refine blk_alloc ?_ _)); exact BK375.out) hb); have n2_ := Aside0.mk (below_step (by repeat (first | (with_reducible first | exact HB.out | apply below_alloc | apply pw_below_drewN | apply below_drew1 | refine below_set ?_ GE374.out | refine below_set ?_ GE375.out) | exact HB.out)) hb); have n3_ := Aside0.mk (hbox); have n4_ := Aside0.mk ((by rw [hg]; exact (below_size (by repeat (first | (with_reducible first | exact HB.out | apply below_alloc | apply pw_below_drewN | apply below_drew1 | refine below_set ?_ GE374.out | refine below_set ?_ GE375.out) | exact HB.out))) : w.heap.size ≤ gb385)); have n5_ := n4_; have n6_ := Aside0.mk ((by rw [hg]; exact Nat.ne_of_lt (blk_lt (g := gb374) (o := .cells #[.int .u64 a0_0, .int .u64 a0_1, .int .u64 a0_2, .int .i64 a0_3, .int .i64 a0_4, .bool a0_5] 24 (0, 0)) (by (with_reducible repeat (first | refine blk_drewN ?_ _ | refine blk_drew ?_ | refine blk_alloc ?_ _)); exact BK374.out)) : gb374 ≠ gb385)); have n7_ := Aside0.mk n6_.out.symm; have n8_ := Aside0.mk ((by rw [hg]; exact Nat.ne_of_lt (blk_lt (g := gb375) (o := .cells #[.int .u64 a1_0, .int .u64 a1_1, .int .u64 a1_2, .int .i64 a1_3, .int .i64 a1_4, .bool a1_5] 24 (0, 0)) (by (with_reducible repeat (first | refine blk_drewN ?_ _ | refine blk_drew ?_ | refine blk_alloc ?_ _)); exact BK375.out)) : gb375 ≠ gb385)); have n9_ := Aside0.mk n8_.out.symm; clear BK374; clear BK375; clear HB; have BK374 := n0_; have BK375 := n1_; have HB := n2_; have BK385 := n3_; have GW385 := n4_; have GE385 := n5_; have NB374_385 := n6_; have NB385_374 := n7_; have NB375_385 := n8_; have NB385_375 := n9_; clear n0_ n1_ n2_ n3_ n4_ n5_ n6_ n7_ n8_ n9_; clear hb hbox hg; have hnb637 := NB385_374.out; have hnc637 := NB374_385.out; have hnb638 := NB385_375.out; have hnc638 := NB375_385.out; obtain ⟨hcz639_0, hcz639_1, hcz639_2, hcz639_3, hcz639_4, hcz639_5, hfz639_0, hfz639_1, hfz639_2, hfz639_3, hfz639_4, hfz639_5⟩ := cells6 BK385.out) | ((with_reducible refine gate_store (t := 24) (p := 12) rfl ?_); refine store_event (t := 24) (p := 12) (v := ?vo_w640) (w1 := ((((((w636.setCell ⟨gb385, 0, none⟩ (.int .u64 t379)).setCell ⟨gb385, 1, none⟩ (.int .u64 t380)).setCell ⟨gb385, 2, none⟩ (.int .u64 t381)).setCell ⟨gb385, 3, none⟩ (.int .i64 t382)).setCell ⟨gb385, 4, none⟩ (.int .i64 t383)).setCell ⟨gb385, 5, none⟩ (.bool true))) ?hg ?ho ?hn ?hr ?_; (case ho => rfl); (case hg => rfl); (case hn => rfl); (case hr => first | (go_simp; done) | (go_simp; rfl)); intro w640 hw; have n0_ : Aside0 (w640.heap[gb374]? = some (.cells #[.int .u64 a0_0, .int .u64 a0_1, .int .u64 a0_2, .int .i64 a0_3, .int .i64 a0_4, .bool a0_5] 24 (0, 0))) := ⟨(by rw [hw]; exact (by (iterate 6 ((with_reducible repeat (first | refine blk_drewN ?_ _ | refine blk_drew ?_ | refine blk_alloc ?_ _)); refine blk_far ?_ NB374_385.out _)); (with_reducible repeat (first | refine blk_drewN ?_ _ | refine blk_drew ?_ | refine blk_alloc ?_ _)); exact BK374.out))⟩; have n1_ : Aside0 (w640.heap[gb375]? = some (.cells #[.int .u64 a1_0, .int .u64 a1_1, .int .u64 a1_2, .int .i64 a1_3, .int .i64 a1_4, .bool a1_5] 24 (0, 0))) := ⟨(by rw [hw]; exact (by (iterate 6 ((with_reducible repeat (first | refine blk_drewN ?_ _ | refine blk_drew ?_ | refine blk_alloc ?_ _)); refine blk_far ?_ NB375_385.out _)); (with_reducible repeat (first | refine blk_drewN ?_ _ | refine blk_drew ?_ | refine blk_alloc ?_ _)); exact BK375.out))⟩; have n2_ : Aside0 (w640.heap[gb385]? = some (.cells #[.int .u64 t379, .int .u64 t380, .int .u64 t381, .int .i64 t382, .int .i64 t383, .bool true] 24 (0, 0))) := ⟨(by rw [hw]; exact (by (with_reducible repeat (first | refine blk_drewN ?_ _ | refine blk_drew ?_ | refine blk_alloc ?_ _)); refine blk_put (cs := #[.int .u64 t379, .int .u64 t380, .int .u64 t381, .int .i64 t382, .int .i64 t383, .bool false]) ?_ 5 _ rfl; (with_reducible repeat (first | refine blk_drewN ?_ _ | refine blk_drew ?_ | refine blk_alloc ?_ _)); refine blk_put (cs := #[.int .u64 t379, .int .u64 t380, .int .u64 t381, .int .i64 t382, .int .i64 0, .bool false]) ?_ 4 _ rfl; (with_reducible repeat (first | refine blk_drewN ?_ _ | refine blk_drew ?_ | refine blk_alloc ?_ _)); refine blk_put (cs := #[.int .u64 t379, .int .u64 t380, .int .u64 t381, .int .i64 0, .int .i64 0, .bool false]) ?_ 3 _ rfl; (with_reducible repeat (first | refine blk_drewN ?_ _ | refine blk_drew ?_ | refine blk_alloc ?_ _)); refine blk_put (cs := #[.int .u64 t379, .int .u64 t380, .int .u64 0, .int .i64 0, .int .i64 0, .bool false]) ?_ 2 _ rfl; (with_reducible repeat (first | refine blk_drewN ?_ _ | refine blk_drew ?_ | refine blk_alloc ?_ _)); refine blk_put (cs := #[.int .u64 t379, .int .u64 0, .int .u64 0, .int .i64 0, .int .i64 0, .bool false]) ?_ 1 _ rfl; (with_reducible repeat (first | refine blk_drewN ?_ _ | refine blk_drew ?_ | refine blk_alloc ?_ _)); refine blk_put (cs := #[.int .u64 0, .int .u64 0, .int .u64 0, .int .i64 0, .int .i64 0, .bool false]) ?_ 0 _ rfl; (with_reducible repeat (first | refine blk_drewN ?_ _ | refine blk_drew ?_ | refine blk_alloc ?_ _)); exact BK385.out))⟩; have n3_ : Aside0 (Below w.heap.size w w640) := ⟨(by rw [hw]; exact (by repeat (first | (with_reducible first | exact HB.out | apply below_alloc | apply pw_below_drewN | apply below_drew1 | refine below_set ?_ GE374.out | refine below_set ?_ GE375.out | refine below_set ?_ GE385.out) | exact HB.out)))⟩; clear hw; clear BK374; clear BK375; clear BK385; clear HB; have BK374 := n0_; have BK375 := n1_; have BK385 := n2_; have HB := n3_; clear n0_ n1_ n2_ n3_; obtain ⟨hcz641_0, hcz641_1, hcz641_2, hcz641_3, hcz641_4, hcz641_5, hfz641_0, hfz641_1, hfz641_2, hfz641_3, hfz641_4, hfz641_5⟩ := cells6 BK385.out) | ((with_reducible refine gate_dst (N := 51) rfl ?_); (with_reducible refine gate_callee (f := 17) rfl ?_); refine goesL_ (some 51) rfl rfl Tryd.func17 (by kernel_rfl) rfl #[.agg #[.int .u64 t379, .int .u64 t380, .int .u64 t381, .int .i64 t382, .int .i64 t383, .bool true], .int .u64 a2, .int .i64 a3] rfl (by (try simp only [List.map_toArray, List.map_cons, List.map_nil]); first | done | rfl | (simp only [List.length_drop, List.length_take]; rfl)) ?_; (with_reducible refine (cap_Check.calls t379 t380 t381 t382 t383 true a2 a3 t386 _ A23.out).mono ?_); rintro e w642 ⟨rfl, hb⟩; refine ⟨_, rfl, ?_⟩; have n0_ := Aside0.mk (blk_below (g := gb374) (o := .cells #[.int .u64 a0_0, .int .u64 a0_1, .int .u64 a0_2, .int .i64 a0_3, .int .i64 a0_4, .bool a0_5] 24 (0, 0)) (by (with_reducible repeat (first | refine blk_drewN ?_ _ | refine blk_drew ?_ | refine blk_alloc ?_ _)); exact BK374.out) hb); have n1_ := Aside0.mk (blk_below (g := gb375) (o := .cells #[.int .u64 a1_0, .int .u64 a1_1, .int .u64 a1_2, .int .i64 a1_3, .int .i64 a1_4, .bool a1_5] 24 (0, 0)) (by (with_reducible repeat (first | refine blk_drewN ?_ _ | refine blk_drew ?_ | refine blk_alloc ?_ _)); exact BK375.out) hb); have n2_ := Aside0.mk (blk_below (g := gb385) (o := .cells #[.int .u64 t379, .int .u64 t380, .int .u64 t381, .int .i64 t382, .int .i64 t383, .bool true] 24 (0, 0)) (by (with_reducible repeat (first | refine blk_drewN ?_ _ | refine blk_drew ?_ | refine blk_alloc ?_ _)); exact BK385.out) hb); have n3_ := Aside0.mk (below_step (by repeat (first | (with_reducible first | exact HB.out | apply below_alloc | apply pw_below_drewN | apply below_drew1 | refine below_set ?_ GE374.out | refine below_set ?_ GE375.out | refine below_set ?_ GE385.out) | exact HB.out)) hb); clear BK374; clear BK375; clear BK385; clear HB; have BK374 := n0_; have BK375 := n1_; have BK385 := n2_; have HB := n3_; clear n0_ n1_ n2_ n3_; (try clear hb); (try clear hb2); (try clear hk); (try clear hi); obtain ⟨hcz643_0, hcz643_1, hcz643_2, hcz643_3, hcz643_4, hcz643_5, hfz643_0, hfz643_1, hfz643_2, hfz643_3, hfz643_4, hfz643_5⟩ := cells6 BK385.out) | ((with_reducible refine gate_dst (N := 54) rfl ?_); (with_reducible refine gate_callee (f := 18) rfl ?_); refine goesL_ (some 54) rfl rfl Tryd.func18 (by kernel_rfl) rfl #[.agg #[.int .u64 t379, .int .u64 t380, .int .u64 t381, .int .i64 t382, .int .i64 t383, .bool true], .int .u64 a2] rfl (by (try simp only [List.map_toArray, List.map_cons, List.map_nil]); first | done | rfl | (simp only [List.length_drop, List.length_take]; rfl)) ?_; (with_reducible refine (cap_Move.calls t379 t380 t381 t382 t383 true a2 t387 t388 t389 t390 t391 false _ A24.out).mono ?_); rintro e w644 ⟨rfl, hb⟩; refine ⟨_, rfl, ?_⟩; have n0_ := Aside0.mk (blk_below (g := gb374) (o := .cells #[.int .u64 a0_0, .int .u64 a0_1, .int .u64 a0_2, .int .i64 a0_3, .int .i64 a0_4, .bool a0_5] 24 (0, 0)) (by (with_reducible repeat (first | refine blk_drewN ?_ _ | refine blk_drew ?_ | refine blk_alloc ?_ _)); exact BK374.out) hb); have n1_ := Aside0.mk (blk_below (g := gb375) (o := .cells #[.int .u64 a1_0, .int .u64 a1_1, .int .u64 a1_2, .int .i64 a1_3, .int .i64 a1_4, .bool a1_5] 24 (0, 0)) (by (with_reducible repeat (first | refine blk_drewN ?_ _ | refine blk_drew ?_ | refine blk_alloc ?_ _)); exact BK375.out) hb); have n2_ := Aside0.mk (blk_below (g := gb385) (o := .cells #[.int .u64 t379, .int .u64 t380, .int .u64 t381, .int .i64 t382, .int .i64 t383, .bool true] 24 (0, 0)) (by (with_reducible repeat (first | refine blk_drewN ?_ _ | refine blk_drew ?_ | refine blk_alloc ?_ _)); exact BK385.out) hb); have n3_ := Aside0.mk (below_step (by repeat (first | (with_reducible first | exact HB.out | apply below_alloc | apply pw_below_drewN | apply below_drew1 | refine below_set ?_ GE374.out | refine below_set ?_ GE375.out | refine below_set ?_ GE385.out) | exact HB.out)) hb); clear BK374; clear BK375; clear BK385; clear HB; have BK374 := n0_; have BK375 := n1_; have BK385 := n2_; have HB := n3_; clear n0_ n1_ n2_ n3_; (try clear hb); (try clear hb2); (try clear hk); (try clear hi)) | ((with_reducible refine gate_dst (N := 14) rfl ?_); refine box_event ?hg (N := 14) ?hd (cs := #[.int .u64 0, .int .u64 0, .int .u64 0, .int .i64 0, .int .i64 0, .bool false]) (t := 24) ?hr ?_; (case hd => rfl); (case hg => rfl); (case hr => first | (go_simp; done) | (go_simp; rfl)); intro gb393 hg w645 hbox hb; have n0_ := Aside0.mk (blk_below (g := gb374) (o := .cells #[.int .u64 a0_0, .int .u64 a0_1, .int .u64 a0_2, .int .i64 a0_3, .int .i64 a0_4, .bool a0_5] 24 (0, 0)) (by (with_reducible repeat (first | refine blk_drewN ?_ _ | refine blk_drew ?_ | refine blk_alloc ?_ _)); exact BK374.out) hb); have n1_ := Aside0.mk (blk_below (g := gb375) (o := .cells #[.int .u64 a1_0, .int .u64 a1_1, .int .u64 a1_2, .int .i64 a1_3, .int .i64 a1_4, .bool a1_5] 24 (0, 0)) (by (with_reducible repeat (first | refine blk_drewN ?_ _ | refine blk_drew ?_ | refine blk_alloc ?_ _)); exact BK375.out) hb); have n2_ := Aside0.mk (blk_below (g := gb385) (o := .cells #[.int .u64 t379, .int .u64 t380, .int .u64 t381, .int .i64 t382, .int .i64 t383, .bool true] 24 (0, 0)) (by (with_reducible repeat (first | refine blk_drewN ?_ _ | refine blk_drew ?_ | refine blk_alloc ?_ _)); exact BK385.out) hb); have n3_ := Aside0.mk (below_step (by repeat (first | (with_reducible first | exact HB.out | apply below_alloc | apply pw_below_drewN | apply below_drew1 | refine below_set ?_ GE374.out | refine below_set ?_ GE375.out | refine below_set ?_ GE385.out) | exact HB.out)) hb); have n4_ := Aside0.mk (hbox); have n5_ := Aside0.mk ((by rw [hg]; exact (below_size (by repeat (first | (with_reducible first | exact HB.out | apply below_alloc | apply pw_below_drewN | apply below_drew1 | refine below_set ?_ GE374.out | refine below_set ?_ GE375.out | refine below_set ?_ GE385.out) | exact HB.out))) : w.heap.size ≤ gb393)); have n6_ := n5_; have n7_ := Aside0.mk ((by rw [hg]; exact Nat.ne_of_lt (blk_lt (g := gb374) (o := .cells #[.int .u64 a0_0, .int .u64 a0_1, .int .u64 a0_2, .int .i64 a0_3, .int .i64 a0_4, .bool a0_5] 24 (0, 0)) (by (with_reducible repeat (first | refine blk_drewN ?_ _ | refine blk_drew ?_ | refine blk_alloc ?_ _)); exact BK374.out)) : gb374 ≠ gb393)); have n8_ := Aside0.mk n7_.out.symm; have n9_ := Aside0.mk ((by rw [hg]; exact Nat.ne_of_lt (blk_lt (g := gb375) (o := .cells #[.int .u64 a1_0, .int .u64 a1_1, .int .u64 a1_2, .int .i64 a1_3, .int .i64 a1_4, .bool a1_5] 24 (0, 0)) (by (with_reducible repeat (first | refine blk_drewN ?_ _ | refine blk_drew ?_ | refine blk_alloc ?_ _)); exact BK375.out)) : gb375 ≠ gb393)); have n10_ := Aside0.mk n9_.out.symm; have n11_ := Aside0.mk ((by rw [hg]; exact Nat.ne_of_lt (blk_lt (g := gb385) (o := .cells #[.int .u64 t379, .int .u64 t380, .int .u64 t381, .int .i64 t382, .int .i64 t383, .bool true] 24 (0, 0)) (by (with_reducible repeat (first | refine blk_drewN ?_ _ | refine blk_drew ?_ | refine blk_alloc ?_ _)); exact BK385.out)) : gb385 ≠ gb393)); have n12_ := Aside0.mk n11_.out.symm; clear BK374; clear BK375; clear BK385; clear HB; have BK374 := n0_; have BK375 := n1_; have BK385 := n2_; have HB := n3_; have BK393 := n4_; have GW393 := n5_; have GE393 := n6_; have NB374_393 := n7_; have NB393_374 := n8_; have NB375_393 := n9_; have NB393_375 := n10_; have NB385_393 := n11_; have NB393_385 := n12_; clear n0_ n1_ n2_ n3_ n4_ n5_ n6_ n7_ n8_ n9_ n10_ n11_ n12_; clear hb hbox hg; have hnb646 := NB393_374.out; have hnc646 := NB374_393.out; have hnb647 := NB393_375.out; have hnc647 := NB375_393.out; have hnb648 := NB393_385.out; have hnc648 := NB385_393.out; obtain ⟨hcz649_0, hcz649_1, hcz649_2, hcz649_3, hcz649_4, hcz649_5, hfz649_0, hfz649_1, hfz649_2, hfz649_3, hfz649_4, hfz649_5⟩ := cells6 BK393.out) | ((with_reducible refine gate_store (t := 24) (p := 14) rfl ?_); refine store_event (t := 24) (p := 14) (v := ?vo_w650) (w1 := ((((((w645.setCell ⟨gb393, 0, none⟩ (.int .u64 t387)).setCell ⟨gb393, 1, none⟩ (.int .u64 t388)).setCell ⟨gb393, 2, none⟩ (.int .u64 t389)).setCell ⟨gb393, 3, none⟩ (.int .i64 t390)).setCell ⟨gb393, 4, none⟩ (.int .i64 t391)).setCell ⟨gb393, 5, none⟩ (.bool false))) ?hg ?ho ?hn ?hr ?_; (case ho => rfl); (case hg => rfl); (case hn => rfl); (case hr => first | (go_simp; done) | (go_simp; rfl)); intro w650 hw; have n0_ : Aside0 (w650.heap[gb374]? = some (.cells #[.int .u64 a0_0, .int .u64 a0_1, .int .u64 a0_2, .int .i64 a0_3, .int .i64 a0_4, .bool a0_5] 24 (0, 0))) := ⟨(by rw [hw]; exact (by (iterate 6 ((with_reducible repeat (first | refine blk_drewN ?_ _ | refine blk_drew ?_ | refine blk_alloc ?_ _)); refine blk_far ?_ NB374_393.out _)); (with_reducible repeat (first | refine blk_drewN ?_ _ | refine blk_drew ?_ | refine blk_alloc ?_ _)); exact BK374.out))⟩; have n1_ : Aside0 (w650.heap[gb375]? = some (.cells #[.int .u64 a1_0, .int .u64 a1_1, .int .u64 a1_2, .int .i64 a1_3, .int .i64 a1_4, .bool a1_5] 24 (0, 0))) := ⟨(by rw [hw]; exact (by (iterate 6 ((with_reducible repeat (first | refine blk_drewN ?_ _ | refine blk_drew ?_ | refine blk_alloc ?_ _)); refine blk_far ?_ NB375_393.out _)); (with_reducible repeat (first | refine blk_drewN ?_ _ | refine blk_drew ?_ | refine blk_alloc ?_ _)); exact BK375.out))⟩; have n2_ : Aside0 (w650.heap[gb385]? = some (.cells #[.int .u64 t379, .int .u64 t380, .int .u64 t381, .int .i64 t382, .int .i64 t383, .bool true] 24 (0, 0))) := ⟨(by rw [hw]; exact (by (iterate 6 ((with_reducible repeat (first | refine blk_drewN ?_ _ | refine blk_drew ?_ | refine blk_alloc ?_ _)); refine blk_far ?_ NB385_393.out _)); (with_reducible repeat (first | refine blk_drewN ?_ _ | refine blk_drew ?_ | refine blk_alloc ?_ _)); exact BK385.out))⟩; have n3_ : Aside0 (w650.heap[gb393]? = some (.cells #[.int .u64 t387, .int .u64 t388, .int .u64 t389, .int .i64 t390, .int .i64 t391, .bool false] 24 (0, 0))) := ⟨(by rw [hw]; exact (by (with_reducible repeat (first | refine blk_drewN ?_ _ | refine blk_drew ?_ | refine blk_alloc ?_ _)); refine blk_put (cs := #[.int .u64 t387, .int .u64 t388, .int .u64 t389, .int .i64 t390, .int .i64 t391, .bool false]) ?_ 5 _ rfl; (with_reducible repeat (first | refine blk_drewN ?_ _ | refine blk_drew ?_ | refine blk_alloc ?_ _)); refine blk_put (cs := #[.int .u64 t387, .int .u64 t388, .int .u64 t389, .int .i64 t390, .int .i64 0, .bool false]) ?_ 4 _ rfl; (with_reducible repeat (first | refine blk_drewN ?_ _ | refine blk_drew ?_ | refine blk_alloc ?_ _)); refine blk_put (cs := #[.int .u64 t387, .int .u64 t388, .int .u64 t389, .int .i64 0, .int .i64 0, .bool false]) ?_ 3 _ rfl; (with_reducible repeat (first | refine blk_drewN ?_ _ | refine blk_drew ?_ | refine blk_alloc ?_ _)); refine blk_put (cs := #[.int .u64 t387, .int .u64 t388, .int .u64 0, .int .i64 0, .int .i64 0, .bool false]) ?_ 2 _ rfl; (with_reducible repeat (first | refine blk_drewN ?_ _ | refine blk_drew ?_ | refine blk_alloc ?_ _)); refine blk_put (cs := #[.int .u64 t387, .int .u64 0, .int .u64 0, .int .i64 0, .int .i64 0, .bool false]) ?_ 1 _ rfl; (with_reducible repeat (first | refine blk_drewN ?_ _ | refine blk_drew ?_ | refine blk_alloc ?_ _)); refine blk_put (cs := #[.int .u64 0, .int .u64 0, .int .u64 0, .int .i64 0, .int .i64 0, .bool false]) ?_ 0 _ rfl; (with_reducible repeat (first | refine blk_drewN ?_ _ | refine blk_drew ?_ | refine blk_alloc ?_ _)); exact BK393.out))⟩; have n4_ : Aside0 (Below w.heap.size w w650) := ⟨(by rw [hw]; exact (by repeat (first | (with_reducible first | exact HB.out | apply below_alloc | apply pw_below_drewN | apply below_drew1 | refine below_set ?_ GE374.out | refine below_set ?_ GE375.out | refine below_set ?_ GE385.out | refine below_set ?_ GE393.out) | exact HB.out)))⟩; clear hw; clear BK374; clear BK375; clear BK385; clear BK393; clear HB; have BK374 := n0_; have BK375 := n1_; have BK385 := n2_; have BK393 := n3_; have HB := n4_; clear n0_ n1_ n2_ n3_ n4_; obtain ⟨hcz651_0, hcz651_1, hcz651_2, hcz651_3, hcz651_4, hcz651_5, hfz651_0, hfz651_1, hfz651_2, hfz651_3, hfz651_4, hfz651_5⟩ := cells6 BK385.out) | ((with_reducible refine gate_dst (N := 57) rfl ?_); (with_reducible refine gate_callee (f := 19) rfl ?_); refine goesL_ (some 57) rfl rfl Tryd.func19 (by kernel_rfl) rfl #[.agg #[.int .u64 t379, .int .u64 t380, .int .u64 t381, .int .i64 t382, .int .i64 t383, .bool true], .int .u64 a2] rfl (by (try simp only [List.map_toArray, List.map_cons, List.map_nil]); first | done | rfl | (simp only [List.length_drop, List.length_take]; rfl)) ?_; (with_reducible refine (cap_Bound.calls t379 t380 t381 t382 t383 true a2 t394 t395 t396 t397 t398 false _ A25.out).mono ?_); rintro e w652 ⟨rfl, hb⟩; refine ⟨_, rfl, ?_⟩; have n0_ := Aside0.mk (blk_below (g := gb374) (o := .cells #[.int .u64 a0_0, .int .u64 a0_1, .int .u64 a0_2, .int .i64 a0_3, .int .i64 a0_4, .bool a0_5] 24 (0, 0)) (by (with_reducible repeat (first | refine blk_drewN ?_ _ | refine blk_drew ?_ | refine blk_alloc ?_ _)); exact BK374.out) hb); have n1_ := Aside0.mk (blk_below (g := gb375) (o := .cells #[.int .u64 a1_0, .int .u64 a1_1, .int .u64 a1_2, .int .i64 a1_3, .int .i64 a1_4, .bool a1_5] 24 (0, 0)) (by (with_reducible repeat (first | refine blk_drewN ?_ _ | refine blk_drew ?_ | refine blk_alloc ?_ _)); exact BK375.out) hb); have n2_ := Aside0.mk (blk_below (g := gb385) (o := .cells #[.int .u64 t379, .int .u64 t380, .int .u64 t381, .int .i64 t382, .int .i64 t383, .bool true] 24 (0, 0)) (by (with_reducible repeat (first | refine blk_drewN ?_ _ | refine blk_drew ?_ | refine blk_alloc ?_ _)); exact BK385.out) hb); have n3_ := Aside0.mk (blk_below (g := gb393) (o := .cells #[.int .u64 t387, .int .u64 t388, .int .u64 t389, .int .i64 t390, .int .i64 t391, .bool false] 24 (0, 0)) (by (with_reducible repeat (first | refine blk_drewN ?_ _ | refine blk_drew ?_ | refine blk_alloc ?_ _)); exact BK393.out) hb); have n4_ := Aside0.mk (below_step (by repeat (first | (with_reducible first | exact HB.out | apply below_alloc | apply pw_below_drewN | apply below_drew1 | refine below_set ?_ GE374.out | refine below_set ?_ GE375.out | refine below_set ?_ GE385.out | refine below_set ?_ GE393.out) | exact HB.out)) hb); clear BK374; clear BK375; clear BK385; clear BK393; clear HB; have BK374 := n0_; have BK375 := n1_; have BK385 := n2_; have BK393 := n3_; have HB := n4_; clear n0_ n1_ n2_ n3_ n4_; (try clear hb); (try clear hb2); (try clear hk); (try clear hi)) | ((with_reducible refine gate_dst (N := 15) rfl ?_); refine box_event ?hg (N := 15) ?hd (cs := #[.int .u64 0, .int .u64 0, .int .u64 0, .int .i64 0, .int .i64 0, .bool false]) (t := 24) ?hr ?_; (case hd => rfl); (case hg => rfl); (case hr => first | (go_simp; done) | (go_simp; rfl)); intro gb400 hg w653 hbox hb; have n0_ := Aside0.mk (blk_below (g := gb374) (o := .cells #[.int .u64 a0_0, .int .u64 a0_1, .int .u64 a0_2, .int .i64 a0_3, .int .i64 a0_4, .bool a0_5] 24 (0, 0)) (by (with_reducible repeat (first | refine blk_drewN ?_ _ | refine blk_drew ?_ | refine blk_alloc ?_ _)); exact BK374.out) hb); have n1_ := Aside0.mk (blk_below (g := gb375) (o := .cells #[.int .u64 a1_0, .int .u64 a1_1, .int .u64 a1_2, .int .i64 a1_3, .int .i64 a1_4, .bool a1_5] 24 (0, 0)) (by (with_reducible repeat (first | refine blk_drewN ?_ _ | refine blk_drew ?_ | refine blk_alloc ?_ _)); exact BK375.out) hb); have n2_ := Aside0.mk (blk_below (g := gb385) (o := .cells #[.int .u64 t379, .int .u64 t380, .int .u64 t381, .int .i64 t382, .int .i64 t383, .bool true] 24 (0, 0)) (by (with_reducible repeat (first | refine blk_drewN ?_ _ | refine blk_drew ?_ | refine blk_alloc ?_ _)); exact BK385.out) hb); have n3_ := Aside0.mk (blk_below (g := gb393) (o := .cells #[.int .u64 t387, .int .u64 t388, .int .u64 t389, .int .i64 t390, .int .i64 t391, .bool false] 24 (0, 0)) (by (with_reducible repeat (first | refine blk_drewN ?_ _ | refine blk_drew ?_ | refine blk_alloc ?_ _)); exact BK393.out) hb); have n4_ := Aside0.mk (below_step (by repeat (first | (with_reducible first | exact HB.out | apply below_alloc | apply pw_below_drewN | apply below_drew1 | refine below_set ?_ GE374.out | refine below_set ?_ GE375.out | refine below_set ?_ GE385.out | refine below_set ?_ GE393.out) | exact HB.out)) hb); have n5_ := Aside0.mk (hbox); have n6_ := Aside0.mk ((by rw [hg]; exact (below_size (by repeat (first | (with_reducible first | exact HB.out | apply below_alloc | apply pw_below_drewN | apply below_drew1 | refine below_set ?_ GE374.out | refine below_set ?_ GE375.out | refine below_set ?_ GE385.out | refine below_set ?_ GE393.out) | exact HB.out))) : w.heap.size ≤ gb400)); have n7_ := n6_; have n8_ := Aside0.mk ((by rw [hg]; exact Nat.ne_of_lt (blk_lt (g := gb374) (o := .cells #[.int .u64 a0_0, .int .u64 a0_1, .int .u64 a0_2, .int .i64 a0_3, .int .i64 a0_4, .bool a0_5] 24 (0, 0)) (by (with_reducible repeat (first | refine blk_drewN ?_ _ | refine blk_drew ?_ | refine blk_alloc ?_ _)); exact BK374.out)) : gb374 ≠ gb400)); have n9_ := Aside0.mk n8_.out.symm; have n10_ := Aside0.mk ((by rw [hg]; exact Nat.ne_of_lt (blk_lt (g := gb375) (o := .cells #[.int .u64 a1_0, .int .u64 a1_1, .int .u64 a1_2, .int .i64 a1_3, .int .i64 a1_4, .bool a1_5] 24 (0, 0)) (by (with_reducible repeat (first | refine blk_drewN ?_ _ | refine blk_drew ?_ | refine blk_alloc ?_ _)); exact BK375.out)) : gb375 ≠ gb400)); have n11_ := Aside0.mk n10_.out.symm; have n12_ := Aside0.mk ((by rw [hg]; exact Nat.ne_of_lt (blk_lt (g := gb385) (o := .cells #[.int .u64 t379, .int .u64 t380, .int .u64 t381, .int .i64 t382, .int .i64 t383, .bool true] 24 (0, 0)) (by (with_reducible repeat (first | refine blk_drewN ?_ _ | refine blk_drew ?_ | refine blk_alloc ?_ _)); exact BK385.out)) : gb385 ≠ gb400)); have n13_ := Aside0.mk n12_.out.symm; have n14_ := Aside0.mk ((by rw [hg]; exact Nat.ne_of_lt (blk_lt (g := gb393) (o := .cells #[.int .u64 t387, .int .u64 t388, .int .u64 t389, .int .i64 t390, .int .i64 t391, .bool false] 24 (0, 0)) (by (with_reducible repeat (first | refine blk_drewN ?_ _ | refine blk_drew ?_ | refine blk_alloc ?_ _)); exact BK393.out)) : gb393 ≠ gb400)); have n15_ := Aside0.mk n14_.out.symm; clear BK374; clear BK375; clear BK385; clear BK393; clear HB; have BK374 := n0_; have BK375 := n1_; have BK385 := n2_; have BK393 := n3_; have HB := n4_; have BK400 := n5_; have GW400 := n6_; have GE400 := n7_; have NB374_400 := n8_; have NB400_374 := n9_; have NB375_400 := n10_; have NB400_375 := n11_; have NB385_400 := n12_; have NB400_385 := n13_; have NB393_400 := n14_; have NB400_393 := n15_; clear n0_ n1_ n2_ n3_ n4_ n5_ n6_ n7_ n8_ n9_ n10_ n11_ n12_ n13_ n14_ n15_; clear hb hbox hg; have hnb654 := NB400_374.out; have hnc654 := NB374_400.out; have hnb655 := NB400_375.out; have hnc655 := NB375_400.out; have hnb656 := NB400_385.out; have hnc656 := NB385_400.out; have hnb657 := NB400_393.out; have hnc657 := NB393_400.out; obtain ⟨hcz658_0, hcz658_1, hcz658_2, hcz658_3, hcz658_4, hcz658_5, hfz658_0, hfz658_1, hfz658_2, hfz658_3, hfz658_4, hfz658_5⟩ := cells6 BK400.out) | ((with_reducible refine gate_store (t := 24) (p := 15) rfl ?_); refine store_event (t := 24) (p := 15) (v := ?vo_w659) (w1 := ((((((w653.setCell ⟨gb400, 0, none⟩ (.int .u64 t394)).setCell ⟨gb400, 1, none⟩ (.int .u64 t395)).setCell ⟨gb400, 2, none⟩ (.int .u64 t396)).setCell ⟨gb400, 3, none⟩ (.int .i64 t397)).setCell ⟨gb400, 4, none⟩ (.int .i64 t398)).setCell ⟨gb400, 5, none⟩ (.bool false))) ?hg ?ho ?hn ?hr ?_; (case ho => rfl); (case hg => rfl); (case hn => rfl); (case hr => first | (go_simp; done) | (go_simp; rfl)); intro w659 hw; have n0_ : Aside0 (w659.heap[gb374]? = some (.cells #[.int .u64 a0_0, .int .u64 a0_1, .int .u64 a0_2, .int .i64 a0_3, .int .i64 a0_4, .bool a0_5] 24 (0, 0))) := ⟨(by rw [hw]; exact (by (iterate 6 ((with_reducible repeat (first | refine blk_drewN ?_ _ | refine blk_drew ?_ | refine blk_alloc ?_ _)); refine blk_far ?_ NB374_400.out _)); (with_reducible repeat (first | refine blk_drewN ?_ _ | refine blk_drew ?_ | refine blk_alloc ?_ _)); exact BK374.out))⟩; have n1_ : Aside0 (w659.heap[gb375]? = some (.cells #[.int .u64 a1_0, .int .u64 a1_1, .int .u64 a1_2, .int .i64 a1_3, .int .i64 a1_4, .bool a1_5] 24 (0, 0))) := ⟨(by rw [hw]; exact (by (iterate 6 ((with_reducible repeat (first | refine blk_drewN ?_ _ | refine blk_drew ?_ | refine blk_alloc ?_ _)); refine blk_far ?_ NB375_400.out _)); (with_reducible repeat (first | refine blk_drewN ?_ _ | refine blk_drew ?_ | refine blk_alloc ?_ _)); exact BK375.out))⟩; have n2_ : Aside0 (w659.heap[gb385]? = some (.cells #[.int .u64 t379, .int .u64 t380, .int .u64 t381, .int .i64 t382, .int .i64 t383, .bool true] 24 (0, 0))) := ⟨(by rw [hw]; exact (by (iterate 6 ((with_reducible repeat (first | refine blk_drewN ?_ _ | refine blk_drew ?_ | refine blk_alloc ?_ _)); refine blk_far ?_ NB385_400.out _)); (with_reducible repeat (first | refine blk_drewN ?_ _ | refine blk_drew ?_ | refine blk_alloc ?_ _)); exact BK385.out))⟩; have n3_ : Aside0 (w659.heap[gb393]? = some (.cells #[.int .u64 t387, .int .u64 t388, .int .u64 t389, .int .i64 t390, .int .i64 t391, .bool false] 24 (0, 0))) := ⟨(by rw [hw]; exact (by (iterate 6 ((with_reducible repeat (first | refine blk_drewN ?_ _ | refine blk_drew ?_ | refine blk_alloc ?_ _)); refine blk_far ?_ NB393_400.out _)); (with_reducible repeat (first | refine blk_drewN ?_ _ | refine blk_drew ?_ | refine blk_alloc ?_ _)); exact BK393.out))⟩; have n4_ : Aside0 (w659.heap[gb400]? = some (.cells #[.int .u64 t394, .int .u64 t395, .int .u64 t396, .int .i64 t397, .int .i64 t398, .bool false] 24 (0, 0))) := ⟨(by rw [hw]; exact (by (with_reducible repeat (first | refine blk_drewN ?_ _ | refine blk_drew ?_ | refine blk_alloc ?_ _)); refine blk_put (cs := #[.int .u64 t394, .int .u64 t395, .int .u64 t396, .int .i64 t397, .int .i64 t398, .bool false]) ?_ 5 _ rfl; (with_reducible repeat (first | refine blk_drewN ?_ _ | refine blk_drew ?_ | refine blk_alloc ?_ _)); refine blk_put (cs := #[.int .u64 t394, .int .u64 t395, .int .u64 t396, .int .i64 t397, .int .i64 0, .bool false]) ?_ 4 _ rfl; (with_reducible repeat (first | refine blk_drewN ?_ _ | refine blk_drew ?_ | refine blk_alloc ?_ _)); refine blk_put (cs := #[.int .u64 t394, .int .u64 t395, .int .u64 t396, .int .i64 0, .int .i64 0, .bool false]) ?_ 3 _ rfl; (with_reducible repeat (first | refine blk_drewN ?_ _ | refine blk_drew ?_ | refine blk_alloc ?_ _)); refine blk_put (cs := #[.int .u64 t394, .int .u64 t395, .int .u64 0, .int .i64 0, .int .i64 0, .bool false]) ?_ 2 _ rfl; (with_reducible repeat (first | refine blk_drewN ?_ _ | refine blk_drew ?_ | refine blk_alloc ?_ _)); refine blk_put (cs := #[.int .u64 t394, .int .u64 0, .int .u64 0, .int .i64 0, .int .i64 0, .bool false]) ?_ 1 _ rfl; (with_reducible repeat (first | refine blk_drewN ?_ _ | refine blk_drew ?_ | refine blk_alloc ?_ _)); refine blk_put (cs := #[.int .u64 0, .int .u64 0, .int .u64 0, .int .i64 0, .int .i64 0, .bool false]) ?_ 0 _ rfl; (with_reducible repeat (first | refine blk_drewN ?_ _ | refine blk_drew ?_ | refine blk_alloc ?_ _)); exact BK400.out))⟩; have n5_ : Aside0 (Below w.heap.size w w659) := ⟨(by rw [hw]; exact (by repeat (first | (with_reducible first | exact HB.out | apply below_alloc | apply pw_below_drewN | apply below_drew1 | refine below_set ?_ GE374.out | refine below_set ?_ GE375.out | refine below_set ?_ GE385.out | refine below_set ?_ GE393.out | refine below_set ?_ GE400.out) | exact HB.out)))⟩; clear hw; clear BK374; clear BK375; clear BK385; clear BK393; clear BK400; clear HB; have BK374 := n0_; have BK375 := n1_; have BK385 := n2_; have BK393 := n3_; have BK400 := n4_; have HB := n5_; clear n0_ n1_ n2_ n3_ n4_ n5_; obtain ⟨hcz660_0, hcz660_1, hcz660_2, hcz660_3, hcz660_4, hcz660_5, hfz660_0, hfz660_1, hfz660_2, hfz660_3, hfz660_4, hfz660_5⟩ := cells6 BK385.out) | ((with_reducible refine gate_dst (N := 60) rfl ?_); (with_reducible refine gate_callee (f := 20) rfl ?_); refine goesL_ (some 60) rfl rfl Tryd.func20 (by kernel_rfl) rfl #[.agg #[.int .u64 t379, .int .u64 t380, .int .u64 t381, .int .i64 t382, .int .i64 t383, .bool true], .int .i64 a3] rfl (by (try simp only [List.map_toArray, List.map_cons, List.map_nil]); first | done | rfl | (simp only [List.length_drop, List.length_take]; rfl)) ?_; (with_reducible refine (cap_And.calls t379 t380 t381 t382 t383 true a3 t401 t402 t403 t404 t405 false _ A26.out).mono ?_); rintro e w661 ⟨rfl, hb⟩; refine ⟨_, rfl, ?_⟩; have n0_ := Aside0.mk (blk_below (g := gb374) (o := .cells #[.int .u64 a0_0, .int .u64 a0_1, .int .u64 a0_2, .int .i64 a0_3, .int .i64 a0_4, .bool a0_5] 24 (0, 0)) (by (with_reducible repeat (first | refine blk_drewN ?_ _ | refine blk_drew ?_ | refine blk_alloc ?_ _)); exact BK374.out) hb); have n1_ := Aside0.mk (blk_below (g := gb375) (o := .cells #[.int .u64 a1_0, .int .u64 a1_1, .int .u64 a1_2, .int .i64 a1_3, .int .i64 a1_4, .bool a1_5] 24 (0, 0)) (by (with_reducible repeat (first | refine blk_drewN ?_ _ | refine blk_drew ?_ | refine blk_alloc ?_ _)); exact BK375.out) hb); have n2_ := Aside0.mk (blk_below (g := gb385) (o := .cells #[.int .u64 t379, .int .u64 t380, .int .u64 t381, .int .i64 t382, .int .i64 t383, .bool true] 24 (0, 0)) (by (with_reducible repeat (first | refine blk_drewN ?_ _ | refine blk_drew ?_ | refine blk_alloc ?_ _)); exact BK385.out) hb); have n3_ := Aside0.mk (blk_below (g := gb393) (o := .cells #[.int .u64 t387, .int .u64 t388, .int .u64 t389, .int .i64 t390, .int .i64 t391, .bool false] 24 (0, 0)) (by (with_reducible repeat (first | refine blk_drewN ?_ _ | refine blk_drew ?_ | refine blk_alloc ?_ _)); exact BK393.out) hb); have n4_ := Aside0.mk (blk_below (g := gb400) (o := .cells #[.int .u64 t394, .int .u64 t395, .int .u64 t396, .int .i64 t397, .int .i64 t398, .bool false] 24 (0, 0)) (by (with_reducible repeat (first | refine blk_drewN ?_ _ | refine blk_drew ?_ | refine blk_alloc ?_ _)); exact BK400.out) hb); have n5_ := Aside0.mk (below_step (by repeat (first | (with_reducible first | exact HB.out | apply below_alloc | apply pw_below_drewN | apply below_drew1 | refine below_set ?_ GE374.out | refine below_set ?_ GE375.out | refine below_set ?_ GE385.out | refine below_set ?_ GE393.out | refine below_set ?_ GE400.out) | exact HB.out)) hb); clear BK374; clear BK375; clear BK385; clear BK393; clear BK400; clear HB; have BK374 := n0_; have BK375 := n1_; have BK385 := n2_; have BK393 := n3_; have BK400 := n4_; have HB := n5_; clear n0_ n1_ n2_ n3_ n4_ n5_; (try clear hb); (try clear hb2); (try clear hk); (try clear hi)) | ((with_reducible refine gate_dst (N := 16) rfl ?_); refine box_event ?hg (N := 16) ?hd (cs := #[.int .u64 0, .int .u64 0, .int .u64 0, .int .i64 0, .int .i64 0, .bool false]) (t := 24) ?hr ?_; (case hd => rfl); (case hg => rfl); (case hr => first | (go_simp; done) | (go_simp; rfl)); intro gb407 hg w662 hbox hb; have n0_ := Aside0.mk (blk_below (g := gb374) (o := .cells #[.int .u64 a0_0, .int .u64 a0_1, .int .u64 a0_2, .int .i64 a0_3, .int .i64 a0_4, .bool a0_5] 24 (0, 0)) (by (with_reducible repeat (first | refine blk_drewN ?_ _ | refine blk_drew ?_ | refine blk_alloc ?_ _)); exact BK374.out) hb); have n1_ := Aside0.mk (blk_below (g := gb375) (o := .cells #[.int .u64 a1_0, .int .u64 a1_1, .int .u64 a1_2, .int .i64 a1_3, .int .i64 a1_4, .bool a1_5] 24 (0, 0)) (by (with_reducible repeat (first | refine blk_drewN ?_ _ | refine blk_drew ?_ | refine blk_alloc ?_ _)); exact BK375.out) hb); have n2_ := Aside0.mk (blk_below (g := gb385) (o := .cells #[.int .u64 t379, .int .u64 t380, .int .u64 t381, .int .i64 t382, .int .i64 t383, .bool true] 24 (0, 0)) (by (with_reducible repeat (first | refine blk_drewN ?_ _ | refine blk_drew ?_ | refine blk_alloc ?_ _)); exact BK385.out) hb); have n3_ := Aside0.mk (blk_below (g := gb393) (o := .cells #[.int .u64 t387, .int .u64 t388, .int .u64 t389, .int .i64 t390, .int .i64 t391, .bool false] 24 (0, 0)) (by (with_reducible repeat (first | refine blk_drewN ?_ _ | refine blk_drew ?_ | refine blk_alloc ?_ _)); exact BK393.out) hb); have n4_ := Aside0.mk (blk_below (g := gb400) (o := .cells #[.int .u64 t394, .int .u64 t395, .int .u64 t396, .int .i64 t397, .int .i64 t398, .bool false] 24 (0, 0)) (by (with_reducible repeat (first | refine blk_drewN ?_ _ | refine blk_drew ?_ | refine blk_alloc ?_ _)); exact BK400.out) hb); have n5_ := Aside0.mk (below_step (by repeat (first | (with_reducible first | exact HB.out | apply below_alloc | apply pw_below_drewN | apply below_drew1 | refine below_set ?_ GE374.out | refine below_set ?_ GE375.out | refine below_set ?_ GE385.out | refine below_set ?_ GE393.out | refine below_set ?_ GE400.out) | exact HB.out)) hb); have n6_ := Aside0.mk (hbox); have n7_ := Aside0.mk ((by rw [hg]; exact (below_size (by repeat (first | (with_reducible first | exact HB.out | apply below_alloc | apply pw_below_drewN | apply below_drew1 | refine below_set ?_ GE374.out | refine below_set ?_ GE375.out | refine below_set ?_ GE385.out | refine below_set ?_ GE393.out | refine below_set ?_ GE400.out) | exact HB.out))) : w.heap.size ≤ gb407)); have n8_ := n7_; have n9_ := Aside0.mk ((by rw [hg]; exact Nat.ne_of_lt (blk_lt (g := gb374) (o := .cells #[.int .u64 a0_0, .int .u64 a0_1, .int .u64 a0_2, .int .i64 a0_3, .int .i64 a0_4, .bool a0_5] 24 (0, 0)) (by (with_reducible repeat (first | refine blk_drewN ?_ _ | refine blk_drew ?_ | refine blk_alloc ?_ _)); exact BK374.out)) : gb374 ≠ gb407)); have n10_ := Aside0.mk n9_.out.symm; have n11_ := Aside0.mk ((by rw [hg]; exact Nat.ne_of_lt (blk_lt (g := gb375) (o := .cells #[.int .u64 a1_0, .int .u64 a1_1, .int .u64 a1_2, .int .i64 a1_3, .int .i64 a1_4, .bool a1_5] 24 (0, 0)) (by (with_reducible repeat (first | refine blk_drewN ?_ _ | refine blk_drew ?_ | refine blk_alloc ?_ _)); exact BK375.out)) : gb375 ≠ gb407)); have n12_ := Aside0.mk n11_.out.symm; have n13_ := Aside0.mk ((by rw [hg]; exact Nat.ne_of_lt (blk_lt (g := gb385) (o := .cells #[.int .u64 t379, .int .u64 t380, .int .u64 t381, .int .i64 t382, .int .i64 t383, .bool true] 24 (0, 0)) (by (with_reducible repeat (first | refine blk_drewN ?_ _ | refine blk_drew ?_ | refine blk_alloc ?_ _)); exact BK385.out)) : gb385 ≠ gb407)); have n14_ := Aside0.mk n13_.out.symm; have n15_ := Aside0.mk ((by rw [hg]; exact Nat.ne_of_lt (blk_lt (g := gb393) (o := .cells #[.int .u64 t387, .int .u64 t388, .int .u64 t389, .int .i64 t390, .int .i64 t391, .bool false] 24 (0, 0)) (by (with_reducible repeat (first | refine blk_drewN ?_ _ | refine blk_drew ?_ | refine blk_alloc ?_ _)); exact BK393.out)) : gb393 ≠ gb407)); have n16_ := Aside0.mk n15_.out.symm; have n17_ := Aside0.mk ((by rw [hg]; exact Nat.ne_of_lt (blk_lt (g := gb400) (o := .cells #[.int .u64 t394, .int .u64 t395, .int .u64 t396, .int .i64 t397, .int .i64 t398, .bool false] 24 (0, 0)) (by (with_reducible repeat (first | refine blk_drewN ?_ _ | refine blk_drew ?_ | refine blk_alloc ?_ _)); exact BK400.out)) : gb400 ≠ gb407)); have n18_ := Aside0.mk n17_.out.symm; clear BK374; clear BK375; clear BK385; clear BK393; clear BK400; clear HB; have BK374 := n0_; have BK375 := n1_; have BK385 := n2_; have BK393 := n3_; have BK400 := n4_; have HB := n5_; have BK407 := n6_; have GW407 := n7_; have GE407 := n8_; have NB374_407 := n9_; have NB407_374 := n10_; have NB375_407 := n11_; have NB407_375 := n12_; have NB385_407 := n13_; have NB407_385 := n14_; have NB393_407 := n15_; have NB407_393 := n16_; have NB400_407 := n17_; have NB407_400 := n18_; clear n0_ n1_ n2_ n3_ n4_ n5_ n6_ n7_ n8_ n9_ n10_ n11_ n12_ n13_ n14_ n15_ n16_ n17_ n18_; clear hb hbox hg; have hnb663 := NB407_374.out; have hnc663 := NB374_407.out; have hnb664 := NB407_375.out; have hnc664 := NB375_407.out; have hnb665 := NB407_385.out; have hnc665 := NB385_407.out; have hnb666 := NB407_393.out; have hnc666 := NB393_407.out; have hnb667 := NB407_400.out; have hnc667 := NB400_407.out; obtain ⟨hcz668_0, hcz668_1, hcz668_2, hcz668_3, hcz668_4, hcz668_5, hfz668_0, hfz668_1, hfz668_2, hfz668_3, hfz668_4, hfz668_5⟩ := cells6 BK407.out) | ((with_reducible refine gate_store (t := 24) (p := 16) rfl ?_); refine store_event (t := 24) (p := 16) (v := ?vo_w669) (w1 := ((((((w662.setCell ⟨gb407, 0, none⟩ (.int .u64 t401)).setCell ⟨gb407, 1, none⟩ (.int .u64 t402)).setCell ⟨gb407, 2, none⟩ (.int .u64 t403)).setCell ⟨gb407, 3, none⟩ (.int .i64 t404)).setCell ⟨gb407, 4, none⟩ (.int .i64 t405)).setCell ⟨gb407, 5, none⟩ (.bool false))) ?hg ?ho ?hn ?hr ?_; (case ho => rfl); (case hg => rfl); (case hn => rfl); (case hr => first | (go_simp; done) | (go_simp; rfl)); intro w669 hw; have n0_ : Aside0 (w669.heap[gb374]? = some (.cells #[.int .u64 a0_0, .int .u64 a0_1, .int .u64 a0_2, .int .i64 a0_3, .int .i64 a0_4, .bool a0_5] 24 (0, 0))) := ⟨(by rw [hw]; exact (by (iterate 6 ((with_reducible repeat (first | refine blk_drewN ?_ _ | refine blk_drew ?_ | refine blk_alloc ?_ _)); refine blk_far ?_ NB374_407.out _)); (with_reducible repeat (first | refine blk_drewN ?_ _ | refine blk_drew ?_ | refine blk_alloc ?_ _)); exact BK374.out))⟩; have n1_ : Aside0 (w669.heap[gb375]? = some (.cells #[.int .u64 a1_0, .int .u64 a1_1, .int .u64 a1_2, .int .i64 a1_3, .int .i64 a1_4, .bool a1_5] 24 (0, 0))) := ⟨(by rw [hw]; exact (by (iterate 6 ((with_reducible repeat (first | refine blk_drewN ?_ _ | refine blk_drew ?_ | refine blk_alloc ?_ _)); refine blk_far ?_ NB375_407.out _)); (with_reducible repeat (first | refine blk_drewN ?_ _ | refine blk_drew ?_ | refine blk_alloc ?_ _)); exact BK375.out))⟩; have n2_ : Aside0 (w669.heap[gb385]? = some (.cells #[.int .u64 t379, .int .u64 t380, .int .u64 t381, .int .i64 t382, .int .i64 t383, .bool true] 24 (0, 0))) := ⟨(by rw [hw]; exact (by (iterate 6 ((with_reducible repeat (first | refine blk_drewN ?_ _ | refine blk_drew ?_ | refine blk_alloc ?_ _)); refine blk_far ?_ NB385_407.out _)); (with_reducible repeat (first | refine blk_drewN ?_ _ | refine blk_drew ?_ | refine blk_alloc ?_ _)); exact BK385.out))⟩; have n3_ : Aside0 (w669.heap[gb393]? = some (.cells #[.int .u64 t387, .int .u64 t388, .int .u64 t389, .int .i64 t390, .int .i64 t391, .bool false] 24 (0, 0))) := ⟨(by rw [hw]; exact (by (iterate 6 ((with_reducible repeat (first | refine blk_drewN ?_ _ | refine blk_drew ?_ | refine blk_alloc ?_ _)); refine blk_far ?_ NB393_407.out _)); (with_reducible repeat (first | refine blk_drewN ?_ _ | refine blk_drew ?_ | refine blk_alloc ?_ _)); exact BK393.out))⟩; have n4_ : Aside0 (w669.heap[gb400]? = some (.cells #[.int .u64 t394, .int .u64 t395, .int .u64 t396, .int .i64 t397, .int .i64 t398, .bool false] 24 (0, 0))) := ⟨(by rw [hw]; exact (by (iterate 6 ((with_reducible repeat (first | refine blk_drewN ?_ _ | refine blk_drew ?_ | refine blk_alloc ?_ _)); refine blk_far ?_ NB400_407.out _)); (with_reducible repeat (first | refine blk_drewN ?_ _ | refine blk_drew ?_ | refine blk_alloc ?_ _)); exact BK400.out))⟩; have n5_ : Aside0 (w669.heap[gb407]? = some (.cells #[.int .u64 t401, .int .u64 t402, .int .u64 t403, .int .i64 t404, .int .i64 t405, .bool false] 24 (0, 0))) := ⟨(by rw [hw]; exact (by (with_reducible repeat (first | refine blk_drewN ?_ _ | refine blk_drew ?_ | refine blk_alloc ?_ _)); refine blk_put (cs := #[.int .u64 t401, .int .u64 t402, .int .u64 t403, .int .i64 t404, .int .i64 t405, .bool false]) ?_ 5 _ rfl; (with_reducible repeat (first | refine blk_drewN ?_ _ | refine blk_drew ?_ | refine blk_alloc ?_ _)); refine blk_put (cs := #[.int .u64 t401, .int .u64 t402, .int .u64 t403, .int .i64 t404, .int .i64 0, .bool false]) ?_ 4 _ rfl; (with_reducible repeat (first | refine blk_drewN ?_ _ | refine blk_drew ?_ | refine blk_alloc ?_ _)); refine blk_put (cs := #[.int .u64 t401, .int .u64 t402, .int .u64 t403, .int .i64 0, .int .i64 0, .bool false]) ?_ 3 _ rfl; (with_reducible repeat (first | refine blk_drewN ?_ _ | refine blk_drew ?_ | refine blk_alloc ?_ _)); refine blk_put (cs := #[.int .u64 t401, .int .u64 t402, .int .u64 0, .int .i64 0, .int .i64 0, .bool false]) ?_ 2 _ rfl; (with_reducible repeat (first | refine blk_drewN ?_ _ | refine blk_drew ?_ | refine blk_alloc ?_ _)); refine blk_put (cs := #[.int .u64 t401, .int .u64 0, .int .u64 0, .int .i64 0, .int .i64 0, .bool false]) ?_ 1 _ rfl; (with_reducible repeat (first | refine blk_drewN ?_ _ | refine blk_drew ?_ | refine blk_alloc ?_ _)); refine blk_put (cs := #[.int .u64 0, .int .u64 0, .int .u64 0, .int .i64 0, .int .i64 0, .bool false]) ?_ 0 _ rfl; (with_reducible repeat (first | refine blk_drewN ?_ _ | refine blk_drew ?_ | refine blk_alloc ?_ _)); exact BK407.out))⟩; have n6_ : Aside0 (Below w.heap.size w w669) := ⟨(by rw [hw]; exact (by repeat (first | (with_reducible first | exact HB.out | apply below_alloc | apply pw_below_drewN | apply below_drew1 | refine below_set ?_ GE374.out | refine below_set ?_ GE375.out | refine below_set ?_ GE385.out | refine below_set ?_ GE393.out | refine below_set ?_ GE400.out | refine below_set ?_ GE407.out) | exact HB.out)))⟩; clear hw; clear BK374; clear BK375; clear BK385; clear BK393; clear BK400; clear BK407; clear HB; have BK374 := n0_; have BK375 := n1_; have BK385 := n2_; have BK393 := n3_; have BK400 := n4_; have BK407 := n5_; have HB := n6_; clear n0_ n1_ n2_ n3_ n4_ n5_ n6_; obtain ⟨hcz670_0, hcz670_1, hcz670_2, hcz670_3, hcz670_4, hcz670_5, hfz670_0, hfz670_1, hfz670_2, hfz670_3, hfz670_4, hfz670_5⟩ := cells6 BK385.out; obtain ⟨hcz671_0, hcz671_1, hcz671_2, hcz671_3, hcz671_4, hcz671_5, hfz671_0, hfz671_1, hfz671_2, hfz671_3, hfz671_4, hfz671_5⟩ := cells6 BK375.out) | ((with_reducible refine gate_dst (N := 63) rfl ?_); (with_reducible refine gate_callee (f := 12) rfl ?_); refine goesL_ (some 63) rfl rfl Tryd.func12 (by kernel_rfl) rfl #[.agg #[.int .u64 t379, .int .u64 t380, .int .u64 t381, .int .i64 t382, .int .i64 t383, .bool true], .agg #[.int .u64 a1_0, .int .u64 a1_1, .int .u64 a1_2, .int .i64 a1_3, .int .i64 a1_4, .bool a1_5]] rfl (by (try simp only [List.map_toArray, List.map_cons, List.map_nil]); first | done | rfl | (simp only [List.length_drop, List.length_take]; rfl)) ?_; (with_reducible refine (cap_Seal.calls t379 t380 t381 t382 t383 true a1_0 a1_1 a1_2 a1_3 a1_4 a1_5 t408 t409 t410 t411 t412 false _ A27.out).mono ?_); rintro e w672 ⟨rfl, hb⟩; refine ⟨_, rfl, ?_⟩; have n0_ := Aside0.mk (blk_below (g := gb374) (o := .cells #[.int .u64 a0_0, .int .u64 a0_1, .int .u64 a0_2, .int .i64 a0_3, .int .i64 a0_4, .bool a0_5] 24 (0, 0)) (by (with_reducible repeat (first | refine blk_drewN ?_ _ | refine blk_drew ?_ | refine blk_alloc ?_ _)); exact BK374.out) hb); have n1_ := Aside0.mk (blk_below (g := gb375) (o := .cells #[.int .u64 a1_0, .int .u64 a1_1, .int .u64 a1_2, .int .i64 a1_3, .int .i64 a1_4, .bool a1_5] 24 (0, 0)) (by (with_reducible repeat (first | refine blk_drewN ?_ _ | refine blk_drew ?_ | refine blk_alloc ?_ _)); exact BK375.out) hb); have n2_ := Aside0.mk (blk_below (g := gb385) (o := .cells #[.int .u64 t379, .int .u64 t380, .int .u64 t381, .int .i64 t382, .int .i64 t383, .bool true] 24 (0, 0)) (by (with_reducible repeat (first | refine blk_drewN ?_ _ | refine blk_drew ?_ | refine blk_alloc ?_ _)); exact BK385.out) hb); have n3_ := Aside0.mk (blk_below (g := gb393) (o := .cells #[.int .u64 t387, .int .u64 t388, .int .u64 t389, .int .i64 t390, .int .i64 t391, .bool false] 24 (0, 0)) (by (with_reducible repeat (first | refine blk_drewN ?_ _ | refine blk_drew ?_ | refine blk_alloc ?_ _)); exact BK393.out) hb); have n4_ := Aside0.mk (blk_below (g := gb400) (o := .cells #[.int .u64 t394, .int .u64 t395, .int .u64 t396, .int .i64 t397, .int .i64 t398, .bool false] 24 (0, 0)) (by (with_reducible repeat (first | refine blk_drewN ?_ _ | refine blk_drew ?_ | refine blk_alloc ?_ _)); exact BK400.out) hb); have n5_ := Aside0.mk (blk_below (g := gb407) (o := .cells #[.int .u64 t401, .int .u64 t402, .int .u64 t403, .int .i64 t404, .int .i64 t405, .bool false] 24 (0, 0)) (by (with_reducible repeat (first | refine blk_drewN ?_ _ | refine blk_drew ?_ | refine blk_alloc ?_ _)); exact BK407.out) hb); have n6_ := Aside0.mk (below_step (by repeat (first | (with_reducible first | exact HB.out | apply below_alloc | apply pw_below_drewN | apply below_drew1 | refine below_set ?_ GE374.out | refine below_set ?_ GE375.out | refine below_set ?_ GE385.out | refine below_set ?_ GE393.out | refine below_set ?_ GE400.out | refine below_set ?_ GE407.out) | exact HB.out)) hb); clear BK374; clear BK375; clear BK385; clear BK393; clear BK400; clear BK407; clear HB; have BK374 := n0_; have BK375 := n1_; have BK385 := n2_; have BK393 := n3_; have BK400 := n4_; have BK407 := n5_; have HB := n6_; clear n0_ n1_ n2_ n3_ n4_ n5_ n6_; (try clear hb); (try clear hb2); (try clear hk); (try clear hi)) | ((with_reducible refine gate_dst (N := 17) rfl ?_); refine box_event ?hg (N := 17) ?hd (cs := #[.int .u64 0, .int .u64 0, .int .u64 0, .int .i64 0, .int .i64 0, .bool false]) (t := 24) ?hr ?_; (case hd => rfl); (case hg => rfl); (case hr => first | (go_simp; done) | (go_simp; rfl)); intro gb414 hg w673 hbox hb; have n0_ := Aside0.mk (blk_below (g := gb374) (o := .cells #[.int .u64 a0_0, .int .u64 a0_1, .int .u64 a0_2, .int .i64 a0_3, .int .i64 a0_4, .bool a0_5] 24 (0, 0)) (by (with_reducible repeat (first | refine blk_drewN ?_ _ | refine blk_drew ?_ | refine blk_alloc ?_ _)); exact BK374.out) hb); have n1_ := Aside0.mk (blk_below (g := gb375) (o := .cells #[.int .u64 a1_0, .int .u64 a1_1, .int .u64 a1_2, .int .i64 a1_3, .int .i64 a1_4, .bool a1_5] 24 (0, 0)) (by (with_reducible repeat (first | refine blk_drewN ?_ _ | refine blk_drew ?_ | refine blk_alloc ?_ _)); exact BK375.out) hb); have n2_ := Aside0.mk (blk_below (g := gb385) (o := .cells #[.int .u64 t379, .int .u64 t380, .int .u64 t381, .int .i64 t382, .int .i64 t383, .bool true] 24 (0, 0)) (by (with_reducible repeat (first | refine blk_drewN ?_ _ | refine blk_drew ?_ | refine blk_alloc ?_ _)); exact BK385.out) hb); have n3_ := Aside0.mk (blk_below (g := gb393) (o := .cells #[.int .u64 t387, .int .u64 t388, .int .u64 t389, .int .i64 t390, .int .i64 t391, .bool false] 24 (0, 0)) (by (with_reducible repeat (first | refine blk_drewN ?_ _ | refine blk_drew ?_ | refine blk_alloc ?_ _)); exact BK393.out) hb); have n4_ := Aside0.mk (blk_below (g := gb400) (o := .cells #[.int .u64 t394, .int .u64 t395, .int .u64 t396, .int .i64 t397, .int .i64 t398, .bool false] 24 (0, 0)) (by (with_reducible repeat (first | refine blk_drewN ?_ _ | refine blk_drew ?_ | refine blk_alloc ?_ _)); exact BK400.out) hb); have n5_ := Aside0.mk (blk_below (g := gb407) (o := .cells #[.int .u64 t401, .int .u64 t402, .int .u64 t403, .int .i64 t404, .int .i64 t405, .bool false] 24 (0, 0)) (by (with_reducible repeat (first | refine blk_drewN ?_ _ | refine blk_drew ?_ | refine blk_alloc ?_ _)); exact BK407.out) hb); have n6_ := Aside0.mk (below_step (by repeat (first | (with_reducible first | exact HB.out | apply below_alloc | apply pw_below_drewN | apply below_drew1 | refine below_set ?_ GE374.out | refine below_set ?_ GE375.out | refine below_set ?_ GE385.out | refine below_set ?_ GE393.out | refine below_set ?_ GE400.out | refine below_set ?_ GE407.out) | exact HB.out)) hb); have n7_ := Aside0.mk (hbox); have n8_ := Aside0.mk ((by rw [hg]; exact (below_size (by repeat (first | (with_reducible first | exact HB.out | apply below_alloc | apply pw_below_drewN | apply below_drew1 | refine below_set ?_ GE374.out | refine below_set ?_ GE375.out | refine below_set ?_ GE385.out | refine below_set ?_ GE393.out | refine below_set ?_ GE400.out | refine below_set ?_ GE407.out) | exact HB.out))) : w.heap.size ≤ gb414)); have n9_ := n8_; have n10_ := Aside0.mk ((by rw [hg]; exact Nat.ne_of_lt (blk_lt (g := gb374) (o := .cells #[.int .u64 a0_0, .int .u64 a0_1, .int .u64 a0_2, .int .i64 a0_3, .int .i64 a0_4, .bool a0_5] 24 (0, 0)) (by (with_reducible repeat (first | refine blk_drewN ?_ _ | refine blk_drew ?_ | refine blk_alloc ?_ _)); exact BK374.out)) : gb374 ≠ gb414)); have n11_ := Aside0.mk n10_.out.symm; have n12_ := Aside0.mk ((by rw [hg]; exact Nat.ne_of_lt (blk_lt (g := gb375) (o := .cells #[.int .u64 a1_0, .int .u64 a1_1, .int .u64 a1_2, .int .i64 a1_3, .int .i64 a1_4, .bool a1_5] 24 (0, 0)) (by (with_reducible repeat (first | refine blk_drewN ?_ _ | refine blk_drew ?_ | refine blk_alloc ?_ _)); exact BK375.out)) : gb375 ≠ gb414)); have n13_ := Aside0.mk n12_.out.symm; have n14_ := Aside0.mk ((by rw [hg]; exact Nat.ne_of_lt (blk_lt (g := gb385) (o := .cells #[.int .u64 t379, .int .u64 t380, .int .u64 t381, .int .i64 t382, .int .i64 t383, .bool true] 24 (0, 0)) (by (with_reducible repeat (first | refine blk_drewN ?_ _ | refine blk_drew ?_ | refine blk_alloc ?_ _)); exact BK385.out)) : gb385 ≠ gb414)); have n15_ := Aside0.mk n14_.out.symm; have n16_ := Aside0.mk ((by rw [hg]; exact Nat.ne_of_lt (blk_lt (g := gb393) (o := .cells #[.int .u64 t387, .int .u64 t388, .int .u64 t389, .int .i64 t390, .int .i64 t391, .bool false] 24 (0, 0)) (by (with_reducible repeat (first | refine blk_drewN ?_ _ | refine blk_drew ?_ | refine blk_alloc ?_ _)); exact BK393.out)) : gb393 ≠ gb414)); have n17_ := Aside0.mk n16_.out.symm; have n18_ := Aside0.mk ((by rw [hg]; exact Nat.ne_of_lt (blk_lt (g := gb400) (o := .cells #[.int .u64 t394, .int .u64 t395, .int .u64 t396, .int .i64 t397, .int .i64 t398, .bool false] 24 (0, 0)) (by (with_reducible repeat (first | refine blk_drewN ?_ _ | refine blk_drew ?_ | refine blk_alloc ?_ _)); exact BK400.out)) : gb400 ≠ gb414)); have n19_ := Aside0.mk n18_.out.symm; have n20_ := Aside0.mk ((by rw [hg]; exact Nat.ne_of_lt (blk_lt (g := gb407) (o := .cells #[.int .u64 t401, .int .u64 t402, .int .u64 t403, .int .i64 t404, .int .i64 t405, .bool false] 24 (0, 0)) (by (with_reducible repeat (first | refine blk_drewN ?_ _ | refine blk_drew ?_ | refine blk_alloc ?_ _)); exact BK407.out)) : gb407 ≠ gb414)); have n21_ := Aside0.mk n20_.out.symm; clear BK374; clear BK375; clear BK385; clear BK393; clear BK400; clear BK407; clear HB; have BK374 := n0_; have BK375 := n1_; have BK385 := n2_; have BK393 := n3_; have BK400 := n4_; have BK407 := n5_; have HB := n6_; have BK414 := n7_; have GW414 := n8_; have GE414 := n9_; have NB374_414 := n10_; have NB414_374 := n11_; have NB375_414 := n12_; have NB414_375 := n13_; have NB385_414 := n14_; have NB414_385 := n15_; have NB393_414 := n16_; have NB414_393 := n17_; have NB400_414 := n18_; have NB414_400 := n19_; have NB407_414 := n20_; have NB414_407 := n21_; clear n0_ n1_ n2_ n3_ n4_ n5_ n6_ n7_ n8_ n9_ n10_ n11_ n12_ n13_ n14_ n15_ n16_ n17_ n18_ n19_ n20_ n21_; clear hb hbox hg; have hnb674 := NB414_374.out; have hnc674 := NB374_414.out; have hnb675 := NB414_375.out; have hnc675 := NB375_414.out; have hnb676 := NB414_385.out; have hnc676 := NB385_414.out; have hnb677 := NB414_393.out; have hnc677 := NB393_414.out; have hnb678 := NB414_400.out; have hnc678 := NB400_414.out; have hnb679 := NB414_407.out; have hnc679 := NB407_414.out; obtain ⟨hcz680_0, hcz680_1, hcz680_2, hcz680_3, hcz680_4, hcz680_5, hfz680_0, hfz680_1, hfz680_2, hfz680_3, hfz680_4, hfz680_5⟩ := cells6 BK414.out) | ((with_reducible refine gate_store (t := 24) (p := 17) rfl ?_); refine store_event (t := 24) (p := 17) (v := ?vo_w681) (w1 := ((((((w673.setCell ⟨gb414, 0, none⟩ (.int .u64 t408)).setCell ⟨gb414, 1, none⟩ (.int .u64 t409)).setCell ⟨gb414, 2, none⟩ (.int .u64 t410)).setCell ⟨gb414, 3, none⟩ (.int .i64 t411)).setCell ⟨gb414, 4, none⟩ (.int .i64 t412)).setCell ⟨gb414, 5, none⟩ (.bool false))) ?hg ?ho ?hn ?hr ?_; (case ho => rfl); (case hg => rfl); (case hn => rfl); (case hr => first | (go_simp; done) | (go_simp; rfl)); intro w681 hw; have n0_ : Aside0 (w681.heap[gb374]? = some (.cells #[.int .u64 a0_0, .int .u64 a0_1, .int .u64 a0_2, .int .i64 a0_3, .int .i64 a0_4, .bool a0_5] 24 (0, 0))) := ⟨(by rw [hw]; exact (by (iterate 6 ((with_reducible repeat (first | refine blk_drewN ?_ _ | refine blk_drew ?_ | refine blk_alloc ?_ _)); refine blk_far ?_ NB374_414.out _)); (with_reducible repeat (first | refine blk_drewN ?_ _ | refine blk_drew ?_ | refine blk_alloc ?_ _)); exact BK374.out))⟩; have n1_ : Aside0 (w681.heap[gb375]? = some (.cells #[.int .u64 a1_0, .int .u64 a1_1, .int .u64 a1_2, .int .i64 a1_3, .int .i64 a1_4, .bool a1_5] 24 (0, 0))) := ⟨(by rw [hw]; exact (by (iterate 6 ((with_reducible repeat (first | refine blk_drewN ?_ _ | refine blk_drew ?_ | refine blk_alloc ?_ _)); refine blk_far ?_ NB375_414.out _)); (with_reducible repeat (first | refine blk_drewN ?_ _ | refine blk_drew ?_ | refine blk_alloc ?_ _)); exact BK375.out))⟩; have n2_ : Aside0 (w681.heap[gb385]? = some (.cells #[.int .u64 t379, .int .u64 t380, .int .u64 t381, .int .i64 t382, .int .i64 t383, .bool true] 24 (0, 0))) := ⟨(by rw [hw]; exact (by (iterate 6 ((with_reducible repeat (first | refine blk_drewN ?_ _ | refine blk_drew ?_ | refine blk_alloc ?_ _)); refine blk_far ?_ NB385_414.out _)); (with_reducible repeat (first | refine blk_drewN ?_ _ | refine blk_drew ?_ | refine blk_alloc ?_ _)); exact BK385.out))⟩; have n3_ : Aside0 (w681.heap[gb393]? = some (.cells #[.int .u64 t387, .int .u64 t388, .int .u64 t389, .int .i64 t390, .int .i64 t391, .bool false] 24 (0, 0))) := ⟨(by rw [hw]; exact (by (iterate 6 ((with_reducible repeat (first | refine blk_drewN ?_ _ | refine blk_drew ?_ | refine blk_alloc ?_ _)); refine blk_far ?_ NB393_414.out _)); (with_reducible repeat (first | refine blk_drewN ?_ _ | refine blk_drew ?_ | refine blk_alloc ?_ _)); exact BK393.out))⟩; have n4_ : Aside0 (w681.heap[gb400]? = some (.cells #[.int .u64 t394, .int .u64 t395, .int .u64 t396, .int .i64 t397, .int .i64 t398, .bool false] 24 (0, 0))) := ⟨(by rw [hw]; exact (by (iterate 6 ((with_reducible repeat (first | refine blk_drewN ?_ _ | refine blk_drew ?_ | refine blk_alloc ?_ _)); refine blk_far ?_ NB400_414.out _)); (with_reducible repeat (first | refine blk_drewN ?_ _ | refine blk_drew ?_ | refine blk_alloc ?_ _)); exact BK400.out))⟩; have n5_ : Aside0 (w681.heap[gb407]? = some (.cells #[.int .u64 t401, .int .u64 t402, .int .u64 t403, .int .i64 t404, .int .i64 t405, .bool false] 24 (0, 0))) := ⟨(by rw [hw]; exact (by (iterate 6 ((with_reducible repeat (first | refine blk_drewN ?_ _ | refine blk_drew ?_ | refine blk_alloc ?_ _)); refine blk_far ?_ NB407_414.out _)); (with_reducible repeat (first | refine blk_drewN ?_ _ | refine blk_drew ?_ | refine blk_alloc ?_ _)); exact BK407.out))⟩; have n6_ : Aside0 (w681.heap[gb414]? = some (.cells #[.int .u64 t408, .int .u64 t409, .int .u64 t410, .int .i64 t411, .int .i64 t412, .bool false] 24 (0, 0))) := ⟨(by rw [hw]; exact (by (with_reducible repeat (first | refine blk_drewN ?_ _ | refine blk_drew ?_ | refine blk_alloc ?_ _)); refine blk_put (cs := #[.int .u64 t408, .int .u64 t409, .int .u64 t410, .int .i64 t411, .int .i64 t412, .bool false]) ?_ 5 _ rfl; (with_reducible repeat (first | refine blk_drewN ?_ _ | refine blk_drew ?_ | refine blk_alloc ?_ _)); refine blk_put (cs := #[.int .u64 t408, .int .u64 t409, .int .u64 t410, .int .i64 t411, .int .i64 0, .bool false]) ?_ 4 _ rfl; (with_reducible repeat (first | refine blk_drewN ?_ _ | refine blk_drew ?_ | refine blk_alloc ?_ _)); refine blk_put (cs := #[.int .u64 t408, .int .u64 t409, .int .u64 t410, .int .i64 0, .int .i64 0, .bool false]) ?_ 3 _ rfl; (with_reducible repeat (first | refine blk_drewN ?_ _ | refine blk_drew ?_ | refine blk_alloc ?_ _)); refine blk_put (cs := #[.int .u64 t408, .int .u64 t409, .int .u64 0, .int .i64 0, .int .i64 0, .bool false]) ?_ 2 _ rfl; (with_reducible repeat (first | refine blk_drewN ?_ _ | refine blk_drew ?_ | refine blk_alloc ?_ _)); refine blk_put (cs := #[.int .u64 t408, .int .u64 0, .int .u64 0, .int .i64 0, .int .i64 0, .bool false]) ?_ 1 _ rfl; (with_reducible repeat (first | refine blk_drewN ?_ _ | refine blk_drew ?_ | refine blk_alloc ?_ _)); refine blk_put (cs := #[.int .u64 0, .int .u64 0, .int .u64 0, .int .i64 0, .int .i64 0, .bool false]) ?_ 0 _ rfl; (with_reducible repeat (first | refine blk_drewN ?_ _ | refine blk_drew ?_ | refine blk_alloc ?_ _)); exact BK414.out))⟩; have n7_ : Aside0 (Below w.heap.size w w681) := ⟨(by rw [hw]; exact (by repeat (first | (with_reducible first | exact HB.out | apply below_alloc | apply pw_below_drewN | apply below_drew1 | refine below_set ?_ GE374.out | refine below_set ?_ GE375.out | refine below_set ?_ GE385.out | refine below_set ?_ GE393.out | refine below_set ?_ GE400.out | refine below_set ?_ GE407.out | refine below_set ?_ GE414.out) | exact HB.out)))⟩; clear hw; clear BK374; clear BK375; clear BK385; clear BK393; clear BK400; clear BK407; clear BK414; clear HB; have BK374 := n0_; have BK375 := n1_; have BK385 := n2_; have BK393 := n3_; have BK400 := n4_; have BK407 := n5_; have BK414 := n6_; have HB := n7_; clear n0_ n1_ n2_ n3_ n4_ n5_ n6_ n7_; obtain ⟨hcz682_0, hcz682_1, hcz682_2, hcz682_3, hcz682_4, hcz682_5, hfz682_0, hfz682_1, hfz682_2, hfz682_3, hfz682_4, hfz682_5⟩ := cells6 BK385.out; obtain ⟨hcz683_0, hcz683_1, hcz683_2, hcz683_3, hcz683_4, hcz683_5, hfz683_0, hfz683_1, hfz683_2, hfz683_3, hfz683_4, hfz683_5⟩ := cells6 BK375.out) | ((with_reducible refine gate_dst (N := 66) rfl ?_); (with_reducible refine gate_callee (f := 13) rfl ?_); refine goesL_ (some 66) rfl rfl Tryd.func13 (by kernel_rfl) rfl #[.agg #[.int .u64 t379, .int .u64 t380, .int .u64 t381, .int .i64 t382, .int .i64 t383, .bool true], .agg #[.int .u64 a1_0, .int .u64 a1_1, .int .u64 a1_2, .int .i64 a1_3, .int .i64 a1_4, .bool a1_5]] rfl (by (try simp only [List.map_toArray, List.map_cons, List.map_nil]); first | done | rfl | (simp only [List.length_drop, List.length_take]; rfl)) ?_; (with_reducible refine (cap_Unseal.calls t379 t380 t381 t382 t383 true a1_0 a1_1 a1_2 a1_3 a1_4 a1_5 t415 t416 t417 t418 t419 t420 _ A28.out).mono ?_); rintro e w684 ⟨rfl, hb⟩; refine ⟨_, rfl, ?_⟩; have n0_ := Aside0.mk (blk_below (g := gb374) (o := .cells #[.int .u64 a0_0, .int .u64 a0_1, .int .u64 a0_2, .int .i64 a0_3, .int .i64 a0_4, .bool a0_5] 24 (0, 0)) (by (with_reducible repeat (first | refine blk_drewN ?_ _ | refine blk_drew ?_ | refine blk_alloc ?_ _)); exact BK374.out) hb); have n1_ := Aside0.mk (blk_below (g := gb375) (o := .cells #[.int .u64 a1_0, .int .u64 a1_1, .int .u64 a1_2, .int .i64 a1_3, .int .i64 a1_4, .bool a1_5] 24 (0, 0)) (by (with_reducible repeat (first | refine blk_drewN ?_ _ | refine blk_drew ?_ | refine blk_alloc ?_ _)); exact BK375.out) hb); have n2_ := Aside0.mk (blk_below (g := gb385) (o := .cells #[.int .u64 t379, .int .u64 t380, .int .u64 t381, .int .i64 t382, .int .i64 t383, .bool true] 24 (0, 0)) (by (with_reducible repeat (first | refine blk_drewN ?_ _ | refine blk_drew ?_ | refine blk_alloc ?_ _)); exact BK385.out) hb); have n3_ := Aside0.mk (blk_below (g := gb393) (o := .cells #[.int .u64 t387, .int .u64 t388, .int .u64 t389, .int .i64 t390, .int .i64 t391, .bool false] 24 (0, 0)) (by (with_reducible repeat (first | refine blk_drewN ?_ _ | refine blk_drew ?_ | refine blk_alloc ?_ _)); exact BK393.out) hb); have n4_ := Aside0.mk (blk_below (g := gb400) (o := .cells #[.int .u64 t394, .int .u64 t395, .int .u64 t396, .int .i64 t397, .int .i64 t398, .bool false] 24 (0, 0)) (by (with_reducible repeat (first | refine blk_drewN ?_ _ | refine blk_drew ?_ | refine blk_alloc ?_ _)); exact BK400.out) hb); have n5_ := Aside0.mk (blk_below (g := gb407) (o := .cells #[.int .u64 t401, .int .u64 t402, .int .u64 t403, .int .i64 t404, .int .i64 t405, .bool false] 24 (0, 0)) (by (with_reducible repeat (first | refine blk_drewN ?_ _ | refine blk_drew ?_ | refine blk_alloc ?_ _)); exact BK407.out) hb); have n6_ := Aside0.mk (blk_below (g := gb414) (o := .cells #[.int .u64 t408, .int .u64 t409, .int .u64 t410, .int .i64 t411, .int .i64 t412, .bool false] 24 (0, 0)) (by (with_reducible repeat (first | refine blk_drewN ?_ _ | refine blk_drew ?_ | refine blk_alloc ?_ _)); exact BK414.out) hb); have n7_ := Aside0.mk (below_step (by repeat (first | (with_reducible first | exact HB.out | apply below_alloc | apply pw_below_drewN | apply below_drew1 | refine below_set ?_ GE374.out | refine below_set ?_ GE375.out | refine below_set ?_ GE385.out | refine below_set ?_ GE393.out | refine below_set ?_ GE400.out | refine below_set ?_ GE407.out | refine below_set ?_ GE414.out) | exact HB.out)) hb); clear BK374; clear BK375; clear BK385; clear BK393; clear BK400; clear BK407; clear BK414; clear HB; have BK374 := n0_; have BK375 := n1_; have BK385 := n2_; have BK393 := n3_; have BK400 := n4_; have BK407 := n5_; have BK414 := n6_; have HB := n7_; clear n0_ n1_ n2_ n3_ n4_ n5_ n6_ n7_; (try clear hb); (try clear hb2); (try clear hk); (try clear hi)) | ((with_reducible refine gate_dst (N := 18) rfl ?_); refine box_event ?hg (N := 18) ?hd (cs := #[.int .u64 0, .int .u64 0, .int .u64 0, .int .i64 0, .int .i64 0, .bool false]) (t := 24) ?hr ?_; (case hd => rfl); (case hg => rfl); (case hr => first | (go_simp; done) | (go_simp; rfl)); intro gb421 hg w685 hbox hb; have n0_ := Aside0.mk (blk_below (g := gb374) (o := .cells #[.int .u64 a0_0, .int .u64 a0_1, .int .u64 a0_2, .int .i64 a0_3, .int .i64 a0_4, .bool a0_5] 24 (0, 0)) (by (with_reducible repeat (first | refine blk_drewN ?_ _ | refine blk_drew ?_ | refine blk_alloc ?_ _)); exact BK374.out) hb); have n1_ := Aside0.mk (blk_below (g := gb375) (o := .cells #[.int .u64 a1_0, .int .u64 a1_1, .int .u64 a1_2, .int .i64 a1_3, .int .i64 a1_4, .bool a1_5] 24 (0, 0)) (by (with_reducible repeat (first | refine blk_drewN ?_ _ | refine blk_drew ?_ | refine blk_alloc ?_ _)); exact BK375.out) hb); have n2_ := Aside0.mk (blk_below (g := gb385) (o := .cells #[.int .u64 t379, .int .u64 t380, .int .u64 t381, .int .i64 t382, .int .i64 t383, .bool true] 24 (0, 0)) (by (with_reducible repeat (first | refine blk_drewN ?_ _ | refine blk_drew ?_ | refine blk_alloc ?_ _)); exact BK385.out) hb); have n3_ := Aside0.mk (blk_below (g := gb393) (o := .cells #[.int .u64 t387, .int .u64 t388, .int .u64 t389, .int .i64 t390, .int .i64 t391, .bool false] 24 (0, 0)) (by (with_reducible repeat (first | refine blk_drewN ?_ _ | refine blk_drew ?_ | refine blk_alloc ?_ _)); exact BK393.out) hb); have n4_ := Aside0.mk (blk_below (g := gb400) (o := .cells #[.int .u64 t394, .int .u64 t395, .int .u64 t396, .int .i64 t397, .int .i64 t398, .bool false] 24 (0, 0)) (by (with_reducible repeat (first | refine blk_drewN ?_ _ | refine blk_drew ?_ | refine blk_alloc ?_ _)); exact BK400.out) hb); have n5_ := Aside0.mk (blk_below (g := gb407) (o := .cells #[.int .u64 t401, .int .u64 t402, .int .u64 t403, .int .i64 t404, .int .i64 t405, .bool false] 24 (0, 0)) (by (with_reducible repeat (first | refine blk_drewN ?_ _ | refine blk_drew ?_ | refine blk_alloc ?_ _)); exact BK407.out) hb); have n6_ := Aside0.mk (blk_below (g := gb414) (o := .cells #[.int .u64 t408, .int .u64 t409, .int .u64 t410, .int .i64 t411, .int .i64 t412, .bool false] 24 (0, 0)) (by (with_reducible repeat (first | refine blk_drewN ?_ _ | refine blk_drew ?_ | refine blk_alloc ?_ _)); exact BK414.out) hb); have n7_ := Aside0.mk (below_step (by repeat (first | (with_reducible first | exact HB.out | apply below_alloc | apply pw_below_drewN | apply below_drew1 | refine below_set ?_ GE374.out | refine below_set ?_ GE375.out | refine below_set ?_ GE385.out | refine below_set ?_ GE393.out | refine below_set ?_ GE400.out | refine below_set ?_ GE407.out | refine below_set ?_ GE414.out) | exact HB.out)) hb); have n8_ := Aside0.mk (hbox); have n9_ := Aside0.mk ((by rw [hg]; exact (below_size (by repeat (first | (with_reducible first | exact HB.out | apply below_alloc | apply pw_below_drewN | apply below_drew1 | refine below_set ?_ GE374.out | refine below_set ?_ GE375.out | refine below_set ?_ GE385.out | refine below_set ?_ GE393.out | refine below_set ?_ GE400.out | refine below_set ?_ GE407.out | refine below_set ?_ GE414.out) | exact HB.out))) : w.heap.size ≤ gb421)); have n10_ := n9_; have n11_ := Aside0.mk ((by rw [hg]; exact Nat.ne_of_lt (blk_lt (g := gb374) (o := .cells #[.int .u64 a0_0, .int .u64 a0_1, .int .u64 a0_2, .int .i64 a0_3, .int .i64 a0_4, .bool a0_5] 24 (0, 0)) (by (with_reducible repeat (first | refine blk_drewN ?_ _ | refine blk_drew ?_ | refine blk_alloc ?_ _)); exact BK374.out)) : gb374 ≠ gb421)); have n12_ := Aside0.mk n11_.out.symm; have n13_ := Aside0.mk ((by rw [hg]; exact Nat.ne_of_lt (blk_lt (g := gb375) (o := .cells #[.int .u64 a1_0, .int .u64 a1_1, .int .u64 a1_2, .int .i64 a1_3, .int .i64 a1_4, .bool a1_5] 24 (0, 0)) (by (with_reducible repeat (first | refine blk_drewN ?_ _ | refine blk_drew ?_ | refine blk_alloc ?_ _)); exact BK375.out)) : gb375 ≠ gb421)); have n14_ := Aside0.mk n13_.out.symm; have n15_ := Aside0.mk ((by rw [hg]; exact Nat.ne_of_lt (blk_lt (g := gb385) (o := .cells #[.int .u64 t379, .int .u64 t380, .int .u64 t381, .int .i64 t382, .int .i64 t383, .bool true] 24 (0, 0)) (by (with_reducible repeat (first | refine blk_drewN ?_ _ | refine blk_drew ?_ | refine blk_alloc ?_ _)); exact BK385.out)) : gb385 ≠ gb421)); have n16_ := Aside0.mk n15_.out.symm; have n17_ := Aside0.mk ((by rw [hg]; exact Nat.ne_of_lt (blk_lt (g := gb393) (o := .cells #[.int .u64 t387, .int .u64 t388, .int .u64 t389, .int .i64 t390, .int .i64 t391, .bool false] 24 (0, 0)) (by (with_reducible repeat (first | refine blk_drewN ?_ _ | refine blk_drew ?_ | refine blk_alloc ?_ _)); exact BK393.out)) : gb393 ≠ gb421)); have n18_ := Aside0.mk n17_.out.symm; have n19_ := Aside0.mk ((by rw [hg]; exact Nat.ne_of_lt (blk_lt (g := gb400) (o := .cells #[.int .u64 t394, .int .u64 t395, .int .u64 t396, .int .i64 t397, .int .i64 t398, .bool false] 24 (0, 0)) (by (with_reducible repeat (first | refine blk_drewN ?_ _ | refine blk_drew ?_ | refine blk_alloc ?_ _)); exact BK400.out)) : gb400 ≠ gb421)); have n20_ := Aside0.mk n19_.out.symm; have n21_ := Aside0.mk ((by rw [hg]; exact Nat.ne_of_lt (blk_lt (g := gb407) (o := .cells #[.int .u64 t401, .int .u64 t402, .int .u64 t403, .int .i64 t404, .int .i64 t405, .bool false] 24 (0, 0)) (by (with_reducible repeat (first | refine blk_drewN ?_ _ | refine blk_drew ?_ | refine blk_alloc ?_ _)); exact BK407.out)) : gb407 ≠ gb421)); have n22_ := Aside0.mk n21_.out.symm; have n23_ := Aside0.mk ((by rw [hg]; exact Nat.ne_of_lt (blk_lt (g := gb414) (o := .cells #[.int .u64 t408, .int .u64 t409, .int .u64 t410, .int .i64 t411, .int .i64 t412, .bool false] 24 (0, 0)) (by (with_reducible repeat (first | refine blk_drewN ?_ _ | refine blk_drew ?_ | refine blk_alloc ?_ _)); exact BK414.out)) : gb414 ≠ gb421)); have n24_ := Aside0.mk n23_.out.symm; clear BK374; clear BK375; clear BK385; clear BK393; clear BK400; clear BK407; clear BK414; clear HB; have BK374 := n0_; have BK375 := n1_; have BK385 := n2_; have BK393 := n3_; have BK400 := n4_; have BK407 := n5_; have BK414 := n6_; have HB := n7_; have BK421 := n8_; have GW421 := n9_; have GE421 := n10_; have NB374_421 := n11_; have NB421_374 := n12_; have NB375_421 := n13_; have NB421_375 := n14_; have NB385_421 := n15_; have NB421_385 := n16_; have NB393_421 := n17_; have NB421_393 := n18_; have NB400_421 := n19_; have NB421_400 := n20_; have NB407_421 := n21_; have NB421_407 := n22_; have NB414_421 := n23_; have NB421_414 := n24_; clear n0_ n1_ n2_ n3_ n4_ n5_ n6_ n7_ n8_ n9_ n10_ n11_ n12_ n13_ n14_ n15_ n16_ n17_ n18_ n19_ n20_ n21_ n22_ n23_ n24_; clear hb hbox hg; have hnb686 := NB421_374.out; have hnc686 := NB374_421.out; have hnb687 := NB421_375.out; have hnc687 := NB375_421.out; have hnb688 := NB421_385.out; have hnc688 := NB385_421.out; have hnb689 := NB421_393.out; have hnc689 := NB393_421.out; have hnb690 := NB421_400.out; have hnc690 := NB400_421.out; have hnb691 := NB421_407.out; have hnc691 := NB407_421.out; have hnb692 := NB421_414.out; have hnc692 := NB414_421.out; obtain ⟨hcz693_0, hcz693_1, hcz693_2, hcz693_3, hcz693_4, hcz693_5, hfz693_0, hfz693_1, hfz693_2, hfz693_3, hfz693_4, hfz693_5⟩ := cells6 BK421.out) | ((with_reducible refine gate_store (t := 24) (p := 18) rfl ?_); refine store_event (t := 24) (p := 18) (v := ?vo_w694) (w1 := ((((((w685.setCell ⟨gb421, 0, none⟩ (.int .u64 t415)).setCell ⟨gb421, 1, none⟩ (.int .u64 t416)).setCell ⟨gb421, 2, none⟩ (.int .u64 t417)).setCell ⟨gb421, 3, none⟩ (.int .i64 t418)).setCell ⟨gb421, 4, none⟩ (.int .i64 t419)).setCell ⟨gb421, 5, none⟩ (.bool t420))) ?hg ?ho ?hn ?hr ?_; (case ho => rfl); (case hg => rfl); (case hn => rfl); (case hr => first | (go_simp; done) | (go_simp; rfl)); intro w694 hw; have n0_ : Aside0 (w694.heap[gb374]? = some (.cells #[.int .u64 a0_0, .int .u64 a0_1, .int .u64 a0_2, .int .i64 a0_3, .int .i64 a0_4, .bool a0_5] 24 (0, 0))) := ⟨(by rw [hw]; exact (by (iterate 6 ((with_reducible repeat (first | refine blk_drewN ?_ _ | refine blk_drew ?_ | refine blk_alloc ?_ _)); refine blk_far ?_ NB374_421.out _)); (with_reducible repeat (first | refine blk_drewN ?_ _ | refine blk_drew ?_ | refine blk_alloc ?_ _)); exact BK374.out))⟩; have n1_ : Aside0 (w694.heap[gb375]? = some (.cells #[.int .u64 a1_0, .int .u64 a1_1, .int .u64 a1_2, .int .i64 a1_3, .int .i64 a1_4, .bool a1_5] 24 (0, 0))) := ⟨(by rw [hw]; exact (by (iterate 6 ((with_reducible repeat (first | refine blk_drewN ?_ _ | refine blk_drew ?_ | refine blk_alloc ?_ _)); refine blk_far ?_ NB375_421.out _)); (with_reducible repeat (first | refine blk_drewN ?_ _ | refine blk_drew ?_ | refine blk_alloc ?_ _)); exact BK375.out))⟩; have n2_ : Aside0 (w694.heap[gb385]? = some (.cells #[.int .u64 t379, .int .u64 t380, .int .u64 t381, .int .i64 t382, .int .i64 t383, .bool true] 24 (0, 0))) := ⟨(by rw [hw]; exact (by (iterate 6 ((with_reducible repeat (first | refine blk_drewN ?_ _ | refine blk_drew ?_ | refine blk_alloc ?_ _)); refine blk_far ?_ NB385_421.out _)); (with_reducible repeat (first | refine blk_drewN ?_ _ | refine blk_drew ?_ | refine blk_alloc ?_ _)); exact BK385.out))⟩; have n3_ : Aside0 (w694.heap[gb393]? = some (.cells #[.int .u64 t387, .int .u64 t388, .int .u64 t389, .int .i64 t390, .int .i64 t391, .bool false] 24 (0, 0))) := ⟨(by rw [hw]; exact (by (iterate 6 ((with_reducible repeat (first | refine blk_drewN ?_ _ | refine blk_drew ?_ | refine blk_alloc ?_ _)); refine blk_far ?_ NB393_421.out _)); (with_reducible repeat (first | refine blk_drewN ?_ _ | refine blk_drew ?_ | refine blk_alloc ?_ _)); exact BK393.out))⟩; have n4_ : Aside0 (w694.heap[gb400]? = some (.cells #[.int .u64 t394, .int .u64 t395, .int .u64 t396, .int .i64 t397, .int .i64 t398, .bool false] 24 (0, 0))) := ⟨(by rw [hw]; exact (by (iterate 6 ((with_reducible repeat (first | refine blk_drewN ?_ _ | refine blk_drew ?_ | refine blk_alloc ?_ _)); refine blk_far ?_ NB400_421.out _)); (with_reducible repeat (first | refine blk_drewN ?_ _ | refine blk_drew ?_ | refine blk_alloc ?_ _)); exact BK400.out))⟩; have n5_ : Aside0 (w694.heap[gb407]? = some (.cells #[.int .u64 t401, .int .u64 t402, .int .u64 t403, .int .i64 t404, .int .i64 t405, .bool false] 24 (0, 0))) := ⟨(by rw [hw]; exact (by (iterate 6 ((with_reducible repeat (first | refine blk_drewN ?_ _ | refine blk_drew ?_ | refine blk_alloc ?_ _)); refine blk_far ?_ NB407_421.out _)); (with_reducible repeat (first | refine blk_drewN ?_ _ | refine blk_drew ?_ | refine blk_alloc ?_ _)); exact BK407.out))⟩; have n6_ : Aside0 (w694.heap[gb414]? = some (.cells #[.int .u64 t408, .int .u64 t409, .int .u64 t410, .int .i64 t411, .int .i64 t412, .bool false] 24 (0, 0))) := ⟨(by rw [hw]; exact (by (iterate 6 ((with_reducible repeat (first | refine blk_drewN ?_ _ | refine blk_drew ?_ | refine blk_alloc ?_ _)); refine blk_far ?_ NB414_421.out _)); (with_reducible repeat (first | refine blk_drewN ?_ _ | refine blk_drew ?_ | refine blk_alloc ?_ _)); exact BK414.out))⟩; have n7_ : Aside0 (w694.heap[gb421]? = some (.cells #[.int .u64 t415, .int .u64 t416, .int .u64 t417, .int .i64 t418, .int .i64 t419, .bool t420] 24 (0, 0))) := ⟨(by rw [hw]; exact (by (with_reducible repeat (first | refine blk_drewN ?_ _ | refine blk_drew ?_ | refine blk_alloc ?_ _)); refine blk_put (cs := #[.int .u64 t415, .int .u64 t416, .int .u64 t417, .int .i64 t418, .int .i64 t419, .bool false]) ?_ 5 _ rfl; (with_reducible repeat (first | refine blk_drewN ?_ _ | refine blk_drew ?_ | refine blk_alloc ?_ _)); refine blk_put (cs := #[.int .u64 t415, .int .u64 t416, .int .u64 t417, .int .i64 t418, .int .i64 0, .bool false]) ?_ 4 _ rfl; (with_reducible repeat (first | refine blk_drewN ?_ _ | refine blk_drew ?_ | refine blk_alloc ?_ _)); refine blk_put (cs := #[.int .u64 t415, .int .u64 t416, .int .u64 t417, .int .i64 0, .int .i64 0, .bool false]) ?_ 3 _ rfl; (with_reducible repeat (first | refine blk_drewN ?_ _ | refine blk_drew ?_ | refine blk_alloc ?_ _)); refine blk_put (cs := #[.int .u64 t415, .int .u64 t416, .int .u64 0, .int .i64 0, .int .i64 0, .bool false]) ?_ 2 _ rfl; (with_reducible repeat (first | refine blk_drewN ?_ _ | refine blk_drew ?_ | refine blk_alloc ?_ _)); refine blk_put (cs := #[.int .u64 t415, .int .u64 0, .int .u64 0, .int .i64 0, .int .i64 0, .bool false]) ?_ 1 _ rfl; (with_reducible repeat (first | refine blk_drewN ?_ _ | refine blk_drew ?_ | refine blk_alloc ?_ _)); refine blk_put (cs := #[.int .u64 0, .int .u64 0, .int .u64 0, .int .i64 0, .int .i64 0, .bool false]) ?_ 0 _ rfl; (with_reducible repeat (first | refine blk_drewN ?_ _ | refine blk_drew ?_ | refine blk_alloc ?_ _)); exact BK421.out))⟩; have n8_ : Aside0 (Below w.heap.size w w694) := ⟨(by rw [hw]; exact (by repeat (first | (with_reducible first | exact HB.out | apply below_alloc | apply pw_below_drewN | apply below_drew1 | refine below_set ?_ GE374.out | refine below_set ?_ GE375.out | refine below_set ?_ GE385.out | refine below_set ?_ GE393.out | refine below_set ?_ GE400.out | refine below_set ?_ GE407.out | refine below_set ?_ GE414.out | refine below_set ?_ GE421.out) | exact HB.out)))⟩; clear hw; clear BK374; clear BK375; clear BK385; clear BK393; clear BK400; clear BK407; clear BK414; clear BK421; clear HB; have BK374 := n0_; have BK375 := n1_; have BK385 := n2_; have BK393 := n3_; have BK400 := n4_; have BK407 := n5_; have BK414 := n6_; have BK421 := n7_; have HB := n8_; clear n0_ n1_ n2_ n3_ n4_ n5_ n6_ n7_ n8_))
            have n0_ := Aside0.mk (blk_drew BK374.out)
            have n1_ := Aside0.mk (blk_drew BK375.out)
            have n2_ := Aside0.mk (blk_drew BK385.out)
            have n3_ := Aside0.mk (blk_drew BK393.out)
            have n4_ := Aside0.mk (blk_drew BK400.out)
            have n5_ := Aside0.mk (blk_drew BK407.out)
            have n6_ := Aside0.mk (blk_drew BK414.out)
            have n7_ := Aside0.mk (blk_drew BK421.out)
            have n8_ := Aside0.mk (below_drew1 HB.out)
            clear BK374
            clear BK375
            clear BK385
            clear BK393
            clear BK400
            clear BK407
            clear BK414
            clear BK421
            clear HB
            have BK374 := n0_
            have BK375 := n1_
            have BK385 := n2_
            have BK393 := n3_
            have BK400 := n4_
            have BK407 := n5_
            have BK414 := n6_
            have BK421 := n7_
            have HB := n8_
            clear n0_ n1_ n2_ n3_ n4_ n5_ n6_ n7_ n8_
            refine start_ (n := 7) (S := fun w' => w'.cell? ⟨gb385, 0, none⟩ = some (.int .u64 t379) ∧ w'.cell? ⟨gb385, 1, none⟩ = some (.int .u64 t380) ∧ w'.cell? ⟨gb385, 2, none⟩ = some (.int .u64 t381) ∧ w'.cell? ⟨gb385, 3, none⟩ = some (.int .i64 t382) ∧ w'.cell? ⟨gb385, 4, none⟩ = some (.int .i64 t383) ∧ w'.cell? ⟨gb385, 5, none⟩ = some (.bool true) ∧ w'.cell? ⟨gb375, 0, none⟩ = some (.int .u64 a1_0) ∧ w'.cell? ⟨gb375, 1, none⟩ = some (.int .u64 a1_1) ∧ w'.cell? ⟨gb375, 2, none⟩ = some (.int .u64 a1_2) ∧ w'.cell? ⟨gb375, 3, none⟩ = some (.int .i64 a1_3) ∧ w'.cell? ⟨gb375, 4, none⟩ = some (.int .i64 a1_4) ∧ w'.cell? ⟨gb375, 5, none⟩ = some (.bool a1_5)) (ds := []) #[false, false, false, false, false, false, false] (by kernel_rfl) rfl rfl ⟨(blk_cell BK385.out 0).trans rfl, (blk_cell BK385.out 1).trans rfl, (blk_cell BK385.out 2).trans rfl, (blk_cell BK385.out 3).trans rfl, (blk_cell BK385.out 4).trans rfl, (blk_cell BK385.out 5).trans rfl, (blk_cell BK375.out 0).trans rfl, (blk_cell BK375.out 1).trans rfl, (blk_cell BK375.out 2).trans rfl, (blk_cell BK375.out 3).trans rfl, (blk_cell BK375.out 4).trans rfl, (blk_cell BK375.out 5).trans rfl⟩ (fun hHeld => ?_)
            generalize w694.drew = w695 at BK374 BK375 BK385 BK393 BK400 BK407 BK414 BK421 HB hHeld ⊢
            refine pure_ (i := 2) (N := some 69) (v := ?_) (a' := ?_) #[false, false, true, false, false, false, false] rfl rfl (by kernel_rfl) (fun _ _ _ h => h) (Or.inl ⟨by rfl, ?_⟩) ?_ ?_
            rotate_left
            ·intro w'
             go_simp
             with_reducible rfl
            rotate_left
            ·simp only [Act.put, List.setIfInBounds_toArray, List.set_cons_zero, List.set_cons_succ, i64_w, i32_w]
             rfl
            refine take_ (i := 0) (N := some 67) (v := ?_) (a' := ?_) #[true, false, true, false, false, false, false] rfl rfl (by kernel_rfl) (fun _ _ _ h => h) (Or.inl ⟨by rfl, ?_⟩) hHeld ?_ ?_
            rotate_left
            ·rintro w' ⟨s0, s1, s2, s3, s4, s5, s6, s7, s8, s9, s10, s11⟩
             go_simp
             with_reducible rfl
            rotate_left
            ·simp only [Act.put, List.setIfInBounds_toArray, List.set_cons_zero, List.set_cons_succ, i64_w, i32_w]
             rfl
            refine take_ (i := 1) (N := some 68) (v := ?_) (a' := ?_) #[true, true, true, false, false, false, false] rfl rfl (by kernel_rfl) (fun _ _ _ h => h) (Or.inl ⟨by rfl, ?_⟩) hHeld ?_ ?_
            rotate_left
            ·rintro w' ⟨s0, s1, s2, s3, s4, s5, s6, s7, s8, s9, s10, s11⟩
             go_simp
             with_reducible rfl
            rotate_left
            ·simp only [Act.put, List.setIfInBounds_toArray, List.set_cons_zero, List.set_cons_succ, i64_w, i32_w]
             rfl
            refine join_ (σ := Nat) 1 #[true, true, true, true, true, true, false] (fun s_ => [(70, .agg #[.int .u64 t422, .int .u64 t423, .int .u64 t424, .int .i64 t425, .int .i64 t426, .bool t427]), (71, .agg #[.int .u64 t428, .int .u64 t429, .int .u64 t430, .int .i64 t431, .int .i64 t432, .bool t433]), (19, .pointer (some ⟨s_, 0, none⟩))]) (fun s_ w' => (w'.cell? ⟨gb385, 0, none⟩ = some (.int .u64 t379) ∧ w'.cell? ⟨gb385, 1, none⟩ = some (.int .u64 t380) ∧ w'.cell? ⟨gb385, 2, none⟩ = some (.int .u64 t381) ∧ w'.cell? ⟨gb385, 3, none⟩ = some (.int .i64 t382) ∧ w'.cell? ⟨gb385, 4, none⟩ = some (.int .i64 t383) ∧ w'.cell? ⟨gb385, 5, none⟩ = some (.bool true) ∧ w'.cell? ⟨gb375, 0, none⟩ = some (.int .u64 a1_0) ∧ w'.cell? ⟨gb375, 1, none⟩ = some (.int .u64 a1_1) ∧ w'.cell? ⟨gb375, 2, none⟩ = some (.int .u64 a1_2) ∧ w'.cell? ⟨gb375, 3, none⟩ = some (.int .i64 a1_3) ∧ w'.cell? ⟨gb375, 4, none⟩ = some (.int .i64 a1_4) ∧ w'.cell? ⟨gb375, 5, none⟩ = some (.bool a1_5)) ∧ (w'.heap[gb374]? = some (.cells #[.int .u64 a0_0, .int .u64 a0_1, .int .u64 a0_2, .int .i64 a0_3, .int .i64 a0_4, .bool a0_5] 24 (0, 0))) ∧ (w'.heap[gb375]? = some (.cells #[.int .u64 a1_0, .int .u64 a1_1, .int .u64 a1_2, .int .i64 a1_3, .int .i64 a1_4, .bool a1_5] 24 (0, 0))) ∧ (w'.heap[gb385]? = some (.cells #[.int .u64 t379, .int .u64 t380, .int .u64 t381, .int .i64 t382, .int .i64 t383, .bool true] 24 (0, 0))) ∧ (w'.heap[gb393]? = some (.cells #[.int .u64 t387, .int .u64 t388, .int .u64 t389, .int .i64 t390, .int .i64 t391, .bool false] 24 (0, 0))) ∧ (w'.heap[gb400]? = some (.cells #[.int .u64 t394, .int .u64 t395, .int .u64 t396, .int .i64 t397, .int .i64 t398, .bool false] 24 (0, 0))) ∧ (w'.heap[gb407]? = some (.cells #[.int .u64 t401, .int .u64 t402, .int .u64 t403, .int .i64 t404, .int .i64 t405, .bool false] 24 (0, 0))) ∧ (w'.heap[gb414]? = some (.cells #[.int .u64 t408, .int .u64 t409, .int .u64 t410, .int .i64 t411, .int .i64 t412, .bool false] 24 (0, 0))) ∧ (w'.heap[gb421]? = some (.cells #[.int .u64 t415, .int .u64 t416, .int .u64 t417, .int .i64 t418, .int .i64 t419, .bool t420] 24 (0, 0))) ∧ (w'.heap[s_]? = some (.cells #[.int .u64 0, .int .u64 0, .int .u64 0, .int .i64 0, .int .i64 0, .bool false] 24 (0, 0))) ∧ (w.heap.size ≤ s_) ∧ (w.heap.size ≤ s_) ∧ (gb374 ≠ s_) ∧ (s_ ≠ gb374) ∧ (gb375 ≠ s_) ∧ (s_ ≠ gb375) ∧ (gb385 ≠ s_) ∧ (s_ ≠ gb385) ∧ (gb393 ≠ s_) ∧ (s_ ≠ gb393) ∧ (gb400 ≠ s_) ∧ (s_ ≠ gb400) ∧ (gb407 ≠ s_) ∧ (s_ ≠ gb407) ∧ (gb414 ≠ s_) ∧ (s_ ≠ gb414) ∧ (gb421 ≠ s_) ∧ (s_ ≠ gb421) ∧ (Below w.heap.size w w')) ?_ ?_
            rotate_left
            ·intro hCont
             refine two_ (i := 3) (j := 5) (Ni := some 70) (Nj := some 19) #[true, true, true, true, false, false, false] #[true, true, true, false, false, true, false] rfl rfl rfl rfl (by kernel_rfl) (by decide) (by decide) (fun K hK => ?_) (fun K hK => ?_)
             ·skip
              refine goes_ Tryd.func18 (by kernel_rfl) rfl #[.agg #[.int .u64 a1_0, .int .u64 a1_1, .int .u64 a1_2, .int .i64 a1_3, .int .i64 a1_4, .bool a1_5], .int .u64 a2] (by rfl) rfl rfl (by (try simp only [List.map_toArray, List.map_cons, List.map_nil]); first | done | rfl | (simp only [List.length_drop, List.length_take]; rfl)) ?_
              with_reducible refine (cap_Move.calls a1_0 a1_1 a1_2 a1_3 a1_4 a1_5 a2 t422 t423 t424 t425 t426 t427 _ A29.out).mono ?_
              rintro e w696 ⟨rfl, hb⟩
              refine ⟨_, rfl, ?_⟩
              have n0_ := Aside0.mk (blk_below (g := gb374) (o := .cells #[.int .u64 a0_0, .int .u64 a0_1, .int .u64 a0_2, .int .i64 a0_3, .int .i64 a0_4, .bool a0_5] 24 (0, 0)) (by (with_reducible repeat (first | refine blk_drewN ?_ _ | refine blk_drew ?_ | refine blk_alloc ?_ _)); exact BK374.out) hb)
              have n1_ := Aside0.mk (blk_below (g := gb375) (o := .cells #[.int .u64 a1_0, .int .u64 a1_1, .int .u64 a1_2, .int .i64 a1_3, .int .i64 a1_4, .bool a1_5] 24 (0, 0)) (by (with_reducible repeat (first | refine blk_drewN ?_ _ | refine blk_drew ?_ | refine blk_alloc ?_ _)); exact BK375.out) hb)
              have n2_ := Aside0.mk (blk_below (g := gb385) (o := .cells #[.int .u64 t379, .int .u64 t380, .int .u64 t381, .int .i64 t382, .int .i64 t383, .bool true] 24 (0, 0)) (by (with_reducible repeat (first | refine blk_drewN ?_ _ | refine blk_drew ?_ | refine blk_alloc ?_ _)); exact BK385.out) hb)
              have n3_ := Aside0.mk (blk_below (g := gb393) (o := .cells #[.int .u64 t387, .int .u64 t388, .int .u64 t389, .int .i64 t390, .int .i64 t391, .bool false] 24 (0, 0)) (by (with_reducible repeat (first | refine blk_drewN ?_ _ | refine blk_drew ?_ | refine blk_alloc ?_ _)); exact BK393.out) hb)
              have n4_ := Aside0.mk (blk_below (g := gb400) (o := .cells #[.int .u64 t394, .int .u64 t395, .int .u64 t396, .int .i64 t397, .int .i64 t398, .bool false] 24 (0, 0)) (by (with_reducible repeat (first | refine blk_drewN ?_ _ | refine blk_drew ?_ | refine blk_alloc ?_ _)); exact BK400.out) hb)
              have n5_ := Aside0.mk (blk_below (g := gb407) (o := .cells #[.int .u64 t401, .int .u64 t402, .int .u64 t403, .int .i64 t404, .int .i64 t405, .bool false] 24 (0, 0)) (by (with_reducible repeat (first | refine blk_drewN ?_ _ | refine blk_drew ?_ | refine blk_alloc ?_ _)); exact BK407.out) hb)
              have n6_ := Aside0.mk (blk_below (g := gb414) (o := .cells #[.int .u64 t408, .int .u64 t409, .int .u64 t410, .int .i64 t411, .int .i64 t412, .bool false] 24 (0, 0)) (by (with_reducible repeat (first | refine blk_drewN ?_ _ | refine blk_drew ?_ | refine blk_alloc ?_ _)); exact BK414.out) hb)
              have n7_ := Aside0.mk (blk_below (g := gb421) (o := .cells #[.int .u64 t415, .int .u64 t416, .int .u64 t417, .int .i64 t418, .int .i64 t419, .bool t420] 24 (0, 0)) (by (with_reducible repeat (first | refine blk_drewN ?_ _ | refine blk_drew ?_ | refine blk_alloc ?_ _)); exact BK421.out) hb)
              have n8_ := Aside0.mk (below_step (by repeat (first | (with_reducible first | exact HB.out | apply below_alloc | apply pw_below_drewN | apply below_drew1 | refine below_set ?_ GE374.out | refine below_set ?_ GE375.out | refine below_set ?_ GE385.out | refine below_set ?_ GE393.out | refine below_set ?_ GE400.out | refine below_set ?_ GE407.out | refine below_set ?_ GE414.out | refine below_set ?_ GE421.out) | exact HB.out)) hb)
              clear BK374
              clear BK375
              clear BK385
              clear BK393
              clear BK400
              clear BK407
              clear BK414
              clear BK421
              clear HB
              have BK374 := n0_
              have BK375 := n1_
              have BK385 := n2_
              have BK393 := n3_
              have BK400 := n4_
              have BK407 := n5_
              have BK414 := n6_
              have BK421 := n7_
              have HB := n8_
              clear n0_ n1_ n2_ n3_ n4_ n5_ n6_ n7_ n8_
              (try clear hb)
              (try clear hb2)
              (try clear hk)
              (try clear hi)
              refine hK.out _ _ ⟨(blk_cell BK385.out 0).trans rfl, (blk_cell BK385.out 1).trans rfl, (blk_cell BK385.out 2).trans rfl, (blk_cell BK385.out 3).trans rfl, (blk_cell BK385.out 4).trans rfl, (blk_cell BK385.out 5).trans rfl, (blk_cell BK375.out 0).trans rfl, (blk_cell BK375.out 1).trans rfl, (blk_cell BK375.out 2).trans rfl, (blk_cell BK375.out 3).trans rfl, (blk_cell BK375.out 4).trans rfl, (blk_cell BK375.out 5).trans rfl⟩ (fun hHeld => ?_)
              clear hK K
              refine norm_ (a' := ?_) ?_ ?_
              rotate_left
              ·show Act.put _ (some 70) _ = _
               simp only [Act.put, List.setIfInBounds_toArray, List.set_cons_zero, List.set_cons_succ, i64_w, i32_w]
               rfl
              refine two_ (i := 4) (j := 5) (Ni := some 71) (Nj := some 19) #[true, true, true, true, true, false, false] #[true, true, true, true, false, true, false] rfl rfl rfl rfl (by kernel_rfl) (by decide) (by decide) (fun K hK => ?_) (fun K hK => ?_)
              ·skip
               refine goes_ Tryd.func13 (by kernel_rfl) rfl #[.agg #[.int .u64 t379, .int .u64 t380, .int .u64 t381, .int .i64 t382, .int .i64 t383, .bool true], .agg #[.int .u64 t422, .int .u64 t423, .int .u64 t424, .int .i64 t425, .int .i64 t426, .bool t427]] (by rfl) rfl rfl (by (try simp only [List.map_toArray, List.map_cons, List.map_nil]); first | done | rfl | (simp only [List.length_drop, List.length_take]; rfl)) ?_
               with_reducible refine (cap_Unseal.calls t379 t380 t381 t382 t383 true t422 t423 t424 t425 t426 t427 t428 t429 t430 t431 t432 t433 _ A30.out).mono ?_
               rintro e w697 ⟨rfl, hb⟩
               refine ⟨_, rfl, ?_⟩
               have n0_ := Aside0.mk (blk_below (g := gb374) (o := .cells #[.int .u64 a0_0, .int .u64 a0_1, .int .u64 a0_2, .int .i64 a0_3, .int .i64 a0_4, .bool a0_5] 24 (0, 0)) (by (with_reducible repeat (first | refine blk_drewN ?_ _ | refine blk_drew ?_ | refine blk_alloc ?_ _)); exact BK374.out) hb)
               have n1_ := Aside0.mk (blk_below (g := gb375) (o := .cells #[.int .u64 a1_0, .int .u64 a1_1, .int .u64 a1_2, .int .i64 a1_3, .int .i64 a1_4, .bool a1_5] 24 (0, 0)) (by (with_reducible repeat (first | refine blk_drewN ?_ _ | refine blk_drew ?_ | refine blk_alloc ?_ _)); exact BK375.out) hb)
               have n2_ := Aside0.mk (blk_below (g := gb385) (o := .cells #[.int .u64 t379, .int .u64 t380, .int .u64 t381, .int .i64 t382, .int .i64 t383, .bool true] 24 (0, 0)) (by (with_reducible repeat (first | refine blk_drewN ?_ _ | refine blk_drew ?_ | refine blk_alloc ?_ _)); exact BK385.out) hb)
               have n3_ := Aside0.mk (blk_below (g := gb393) (o := .cells #[.int .u64 t387, .int .u64 t388, .int .u64 t389, .int .i64 t390, .int .i64 t391, .bool false] 24 (0, 0)) (by (with_reducible repeat (first | refine blk_drewN ?_ _ | refine blk_drew ?_ | refine blk_alloc ?_ _)); exact BK393.out) hb)
               have n4_ := Aside0.mk (blk_below (g := gb400) (o := .cells #[.int .u64 t394, .int .u64 t395, .int .u64 t396, .int .i64 t397, .int .i64 t398, .bool false] 24 (0, 0)) (by (with_reducible repeat (first | refine blk_drewN ?_ _ | refine blk_drew ?_ | refine blk_alloc ?_ _)); exact BK400.out) hb)
               have n5_ := Aside0.mk (blk_below (g := gb407) (o := .cells #[.int .u64 t401, .int .u64 t402, .int .u64 t403, .int .i64 t404, .int .i64 t405, .bool false] 24 (0, 0)) (by (with_reducible repeat (first | refine blk_drewN ?_ _ | refine blk_drew ?_ | refine blk_alloc ?_ _)); exact BK407.out) hb)
               have n6_ := Aside0.mk (blk_below (g := gb414) (o := .cells #[.int .u64 t408, .int .u64 t409, .int .u64 t410, .int .i64 t411, .int .i64 t412, .bool false] 24 (0, 0)) (by (with_reducible repeat (first | refine blk_drewN ?_ _ | refine blk_drew ?_ | refine blk_alloc ?_ _)); exact BK414.out) hb)
               have n7_ := Aside0.mk (blk_below (g := gb421) (o := .cells #[.int .u64 t415, .int .u64 t416, .int .u64 t417, .int .i64 t418, .int .i64 t419, .bool t420] 24 (0, 0)) (by (with_reducible repeat (first | refine blk_drewN ?_ _ | refine blk_drew ?_ | refine blk_alloc ?_ _)); exact BK421.out) hb)
               have n8_ := Aside0.mk (below_step (by repeat (first | (with_reducible first | exact HB.out | apply below_alloc | apply pw_below_drewN | apply below_drew1 | refine below_set ?_ GE374.out | refine below_set ?_ GE375.out | refine below_set ?_ GE385.out | refine below_set ?_ GE393.out | refine below_set ?_ GE400.out | refine below_set ?_ GE407.out | refine below_set ?_ GE414.out | refine below_set ?_ GE421.out) | exact HB.out)) hb)
               clear BK374
               clear BK375
               clear BK385
               clear BK393
               clear BK400
               clear BK407
               clear BK414
               clear BK421
               clear HB
               have BK374 := n0_
               have BK375 := n1_
               have BK385 := n2_
               have BK393 := n3_
               have BK400 := n4_
               have BK407 := n5_
               have BK414 := n6_
               have BK421 := n7_
               have HB := n8_
               clear n0_ n1_ n2_ n3_ n4_ n5_ n6_ n7_ n8_
               (try clear hb)
               (try clear hb2)
               (try clear hk)
               (try clear hi)
               refine hK.out _ _ ⟨(blk_cell BK385.out 0).trans rfl, (blk_cell BK385.out 1).trans rfl, (blk_cell BK385.out 2).trans rfl, (blk_cell BK385.out 3).trans rfl, (blk_cell BK385.out 4).trans rfl, (blk_cell BK385.out 5).trans rfl, (blk_cell BK375.out 0).trans rfl, (blk_cell BK375.out 1).trans rfl, (blk_cell BK375.out 2).trans rfl, (blk_cell BK375.out 3).trans rfl, (blk_cell BK375.out 4).trans rfl, (blk_cell BK375.out 5).trans rfl⟩ (fun hHeld => ?_)
               clear hK K
               refine norm_ (a' := ?_) ?_ ?_
               rotate_left
               ·show Act.put _ (some 71) _ = _
                simp only [Act.put, List.setIfInBounds_toArray, List.set_cons_zero, List.set_cons_succ, i64_w, i32_w]
                rfl
               refine one_ (i := 5) (N := some 19) #[true, true, true, true, true, true, false] rfl rfl (by kernel_rfl) (by decide) (fun K hK => ?_)
               refine box_step ?hg (N := 19) ?hd (cs := #[.int .u64 0, .int .u64 0, .int .u64 0, .int .i64 0, .int .i64 0, .bool false]) (t := 24) ?hr ?_; (case hd => rfl); (case hg => rfl); (case hr => first | (go_simp; done) | (go_simp; rfl))
               intro gb434 hg w698 hbox hb
               have n0_ := Aside0.mk (blk_below (g := gb374) (o := .cells #[.int .u64 a0_0, .int .u64 a0_1, .int .u64 a0_2, .int .i64 a0_3, .int .i64 a0_4, .bool a0_5] 24 (0, 0)) (by (with_reducible repeat (first | refine blk_drewN ?_ _ | refine blk_drew ?_ | refine blk_alloc ?_ _)); exact BK374.out) hb)
               have n1_ := Aside0.mk (blk_below (g := gb375) (o := .cells #[.int .u64 a1_0, .int .u64 a1_1, .int .u64 a1_2, .int .i64 a1_3, .int .i64 a1_4, .bool a1_5] 24 (0, 0)) (by (with_reducible repeat (first | refine blk_drewN ?_ _ | refine blk_drew ?_ | refine blk_alloc ?_ _)); exact BK375.out) hb)
               have n2_ := Aside0.mk (blk_below (g := gb385) (o := .cells #[.int .u64 t379, .int .u64 t380, .int .u64 t381, .int .i64 t382, .int .i64 t383, .bool true] 24 (0, 0)) (by (with_reducible repeat (first | refine blk_drewN ?_ _ | refine blk_drew ?_ | refine blk_alloc ?_ _)); exact BK385.out) hb)
               have n3_ := Aside0.mk (blk_below (g := gb393) (o := .cells #[.int .u64 t387, .int .u64 t388, .int .u64 t389, .int .i64 t390, .int .i64 t391, .bool false] 24 (0, 0)) (by (with_reducible repeat (first | refine blk_drewN ?_ _ | refine blk_drew ?_ | refine blk_alloc ?_ _)); exact BK393.out) hb)
               have n4_ := Aside0.mk (blk_below (g := gb400) (o := .cells #[.int .u64 t394, .int .u64 t395, .int .u64 t396, .int .i64 t397, .int .i64 t398, .bool false] 24 (0, 0)) (by (with_reducible repeat (first | refine blk_drewN ?_ _ | refine blk_drew ?_ | refine blk_alloc ?_ _)); exact BK400.out) hb)
               have n5_ := Aside0.mk (blk_below (g := gb407) (o := .cells #[.int .u64 t401, .int .u64 t402, .int .u64 t403, .int .i64 t404, .int .i64 t405, .bool false] 24 (0, 0)) (by (with_reducible repeat (first | refine blk_drewN ?_ _ | refine blk_drew ?_ | refine blk_alloc ?_ _)); exact BK407.out) hb)
               have n6_ := Aside0.mk (blk_below (g := gb414) (o := .cells #[.int .u64 t408, .int .u64 t409, .int .u64 t410, .int .i64 t411, .int .i64 t412, .bool false] 24 (0, 0)) (by (with_reducible repeat (first | refine blk_drewN ?_ _ | refine blk_drew ?_ | refine blk_alloc ?_ _)); exact BK414.out) hb)
               have n7_ := Aside0.mk (blk_below (g := gb421) (o := .cells #[.int .u64 t415, .int .u64 t416, .int .u64 t417, .int .i64 t418, .int .i64 t419, .bool t420] 24 (0, 0)) (by (with_reducible repeat (first | refine blk_drewN ?_ _ | refine blk_drew ?_ | refine blk_alloc ?_ _)); exact BK421.out) hb)
               have n8_ := Aside0.mk (below_step (by repeat (first | (with_reducible first | exact HB.out | apply below_alloc | apply pw_below_drewN | apply below_drew1 | refine below_set ?_ GE374.out | refine below_set ?_ GE375.out | refine below_set ?_ GE385.out | refine below_set ?_ GE393.out | refine below_set ?_ GE400.out | refine below_set ?_ GE407.out | refine below_set ?_ GE414.out | refine below_set ?_ GE421.out) | exact HB.out)) hb)
               have n9_ := Aside0.mk (hbox)
               have n10_ := Aside0.mk ((by rw [hg]; exact (below_size (by repeat (first | (with_reducible first | exact HB.out | apply below_alloc | apply pw_below_drewN | apply below_drew1 | refine below_set ?_ GE374.out | refine below_set ?_ GE375.out | refine below_set ?_ GE385.out | refine below_set ?_ GE393.out | refine below_set ?_ GE400.out | refine below_set ?_ GE407.out | refine below_set ?_ GE414.out | refine below_set ?_ GE421.out) | exact HB.out))) : w.heap.size ≤ gb434))
               have n11_ := Aside0.mk ((by rw [hg]; exact (below_size (by repeat (first | (with_reducible first | exact HB.out | apply below_alloc | apply pw_below_drewN | apply below_drew1 | refine below_set ?_ GE374.out | refine below_set ?_ GE375.out | refine below_set ?_ GE385.out | refine below_set ?_ GE393.out | refine below_set ?_ GE400.out | refine below_set ?_ GE407.out | refine below_set ?_ GE414.out | refine below_set ?_ GE421.out) | exact HB.out))) : w.heap.size ≤ gb434))
               have n12_ := Aside0.mk ((by rw [hg]; exact Nat.ne_of_lt (blk_lt (g := gb374) (o := .cells #[.int .u64 a0_0, .int .u64 a0_1, .int .u64 a0_2, .int .i64 a0_3, .int .i64 a0_4, .bool a0_5] 24 (0, 0)) (by (with_reducible repeat (first | refine blk_drewN ?_ _ | refine blk_drew ?_ | refine blk_alloc ?_ _)); exact BK374.out)) : gb374 ≠ gb434))
               have n13_ := Aside0.mk ((by rw [hg]; exact Nat.ne_of_gt (blk_lt (g := gb374) (o := .cells #[.int .u64 a0_0, .int .u64 a0_1, .int .u64 a0_2, .int .i64 a0_3, .int .i64 a0_4, .bool a0_5] 24 (0, 0)) (by (with_reducible repeat (first | refine blk_drewN ?_ _ | refine blk_drew ?_ | refine blk_alloc ?_ _)); exact BK374.out)) : gb434 ≠ gb374))
               have n14_ := Aside0.mk ((by rw [hg]; exact Nat.ne_of_lt (blk_lt (g := gb375) (o := .cells #[.int .u64 a1_0, .int .u64 a1_1, .int .u64 a1_2, .int .i64 a1_3, .int .i64 a1_4, .bool a1_5] 24 (0, 0)) (by (with_reducible repeat (first | refine blk_drewN ?_ _ | refine blk_drew ?_ | refine blk_alloc ?_ _)); exact BK375.out)) : gb375 ≠ gb434))
               have n15_ := Aside0.mk ((by rw [hg]; exact Nat.ne_of_gt (blk_lt (g := gb375) (o := .cells #[.int .u64 a1_0, .int .u64 a1_1, .int .u64 a1_2, .int .i64 a1_3, .int .i64 a1_4, .bool a1_5] 24 (0, 0)) (by (with_reducible repeat (first | refine blk_drewN ?_ _ | refine blk_drew ?_ | refine blk_alloc ?_ _)); exact BK375.out)) : gb434 ≠ gb375))
               have n16_ := Aside0.mk ((by rw [hg]; exact Nat.ne_of_lt (blk_lt (g := gb385) (o := .cells #[.int .u64 t379, .int .u64 t380, .int .u64 t381, .int .i64 t382, .int .i64 t383, .bool true] 24 (0, 0)) (by (with_reducible repeat (first | refine blk_drewN ?_ _ | refine blk_drew ?_ | refine blk_alloc ?_ _)); exact BK385.out)) : gb385 ≠ gb434))
               have n17_ := Aside0.mk ((by rw [hg]; exact Nat.ne_of_gt (blk_lt (g := gb385) (o := .cells #[.int .u64 t379, .int .u64 t380, .int .u64 t381, .int .i64 t382, .int .i64 t383, .bool true] 24 (0, 0)) (by (with_reducible repeat (first | refine blk_drewN ?_ _ | refine blk_drew ?_ | refine blk_alloc ?_ _)); exact BK385.out)) : gb434 ≠ gb385))
               have n18_ := Aside0.mk ((by rw [hg]; exact Nat.ne_of_lt (blk_lt (g := gb393) (o := .cells #[.int .u64 t387, .int .u64 t388, .int .u64 t389, .int .i64 t390, .int .i64 t391, .bool false] 24 (0, 0)) (by (with_reducible repeat (first | refine blk_drewN ?_ _ | refine blk_drew ?_ | refine blk_alloc ?_ _)); exact BK393.out)) : gb393 ≠ gb434))
               have n19_ := Aside0.mk ((by rw [hg]; exact Nat.ne_of_gt (blk_lt (g := gb393) (o := .cells #[.int .u64 t387, .int .u64 t388, .int .u64 t389, .int .i64 t390, .int .i64 t391, .bool false] 24 (0, 0)) (by (with_reducible repeat (first | refine blk_drewN ?_ _ | refine blk_drew ?_ | refine blk_alloc ?_ _)); exact BK393.out)) : gb434 ≠ gb393))
               have n20_ := Aside0.mk ((by rw [hg]; exact Nat.ne_of_lt (blk_lt (g := gb400) (o := .cells #[.int .u64 t394, .int .u64 t395, .int .u64 t396, .int .i64 t397, .int .i64 t398, .bool false] 24 (0, 0)) (by (with_reducible repeat (first | refine blk_drewN ?_ _ | refine blk_drew ?_ | refine blk_alloc ?_ _)); exact BK400.out)) : gb400 ≠ gb434))
               have n21_ := Aside0.mk ((by rw [hg]; exact Nat.ne_of_gt (blk_lt (g := gb400) (o := .cells #[.int .u64 t394, .int .u64 t395, .int .u64 t396, .int .i64 t397, .int .i64 t398, .bool false] 24 (0, 0)) (by (with_reducible repeat (first | refine blk_drewN ?_ _ | refine blk_drew ?_ | refine blk_alloc ?_ _)); exact BK400.out)) : gb434 ≠ gb400))
               have n22_ := Aside0.mk ((by rw [hg]; exact Nat.ne_of_lt (blk_lt (g := gb407) (o := .cells #[.int .u64 t401, .int .u64 t402, .int .u64 t403, .int .i64 t404, .int .i64 t405, .bool false] 24 (0, 0)) (by (with_reducible repeat (first | refine blk_drewN ?_ _ | refine blk_drew ?_ | refine blk_alloc ?_ _)); exact BK407.out)) : gb407 ≠ gb434))
               have n23_ := Aside0.mk ((by rw [hg]; exact Nat.ne_of_gt (blk_lt (g := gb407) (o := .cells #[.int .u64 t401, .int .u64 t402, .int .u64 t403, .int .i64 t404, .int .i64 t405, .bool false] 24 (0, 0)) (by (with_reducible repeat (first | refine blk_drewN ?_ _ | refine blk_drew ?_ | refine blk_alloc ?_ _)); exact BK407.out)) : gb434 ≠ gb407))
               have n24_ := Aside0.mk ((by rw [hg]; exact Nat.ne_of_lt (blk_lt (g := gb414) (o := .cells #[.int .u64 t408, .int .u64 t409, .int .u64 t410, .int .i64 t411, .int .i64 t412, .bool false] 24 (0, 0)) (by (with_reducible repeat (first | refine blk_drewN ?_ _ | refine blk_drew ?_ | refine blk_alloc ?_ _)); exact BK414.out)) : gb414 ≠ gb434))
               have n25_ := Aside0.mk ((by rw [hg]; exact Nat.ne_of_gt (blk_lt (g := gb414) (o := .cells #[.int .u64 t408, .int .u64 t409, .int .u64 t410, .int .i64 t411, .int .i64 t412, .bool false] 24 (0, 0)) (by (with_reducible repeat (first | refine blk_drewN ?_ _ | refine blk_drew ?_ | refine blk_alloc ?_ _)); exact BK414.out)) : gb434 ≠ gb414))
               have n26_ := Aside0.mk ((by rw [hg]; exact Nat.ne_of_lt (blk_lt (g := gb421) (o := .cells #[.int .u64 t415, .int .u64 t416, .int .u64 t417, .int .i64 t418, .int .i64 t419, .bool t420] 24 (0, 0)) (by (with_reducible repeat (first | refine blk_drewN ?_ _ | refine blk_drew ?_ | refine blk_alloc ?_ _)); exact BK421.out)) : gb421 ≠ gb434))
               have n27_ := Aside0.mk ((by rw [hg]; exact Nat.ne_of_gt (blk_lt (g := gb421) (o := .cells #[.int .u64 t415, .int .u64 t416, .int .u64 t417, .int .i64 t418, .int .i64 t419, .bool t420] 24 (0, 0)) (by (with_reducible repeat (first | refine blk_drewN ?_ _ | refine blk_drew ?_ | refine blk_alloc ?_ _)); exact BK421.out)) : gb434 ≠ gb421))
               clear BK374
               clear BK375
               clear BK385
               clear BK393
               clear BK400
               clear BK407
               clear BK414
               clear BK421
               clear HB
               have BK374 := n0_
               have BK375 := n1_
               have BK385 := n2_
               have BK393 := n3_
               have BK400 := n4_
               have BK407 := n5_
               have BK414 := n6_
               have BK421 := n7_
               have HB := n8_
               have BK434 := n9_
               have GW434 := n10_
               have GE434 := n11_
               have NB374_434 := n12_
               have NB434_374 := n13_
               have NB375_434 := n14_
               have NB434_375 := n15_
               have NB385_434 := n16_
               have NB434_385 := n17_
               have NB393_434 := n18_
               have NB434_393 := n19_
               have NB400_434 := n20_
               have NB434_400 := n21_
               have NB407_434 := n22_
               have NB434_407 := n23_
               have NB414_434 := n24_
               have NB434_414 := n25_
               have NB421_434 := n26_
               have NB434_421 := n27_
               clear n0_ n1_ n2_ n3_ n4_ n5_ n6_ n7_ n8_ n9_ n10_ n11_ n12_ n13_ n14_ n15_ n16_ n17_ n18_ n19_ n20_ n21_ n22_ n23_ n24_ n25_ n26_ n27_
               clear hb hbox hg
               refine hK.out _ _ ⟨(blk_cell BK385.out 0).trans rfl, (blk_cell BK385.out 1).trans rfl, (blk_cell BK385.out 2).trans rfl, (blk_cell BK385.out 3).trans rfl, (blk_cell BK385.out 4).trans rfl, (blk_cell BK385.out 5).trans rfl, (blk_cell BK375.out 0).trans rfl, (blk_cell BK375.out 1).trans rfl, (blk_cell BK375.out 2).trans rfl, (blk_cell BK375.out 3).trans rfl, (blk_cell BK375.out 4).trans rfl, (blk_cell BK375.out 5).trans rfl⟩ (fun hHeld => ?_)
               clear hK K
               refine norm_ (a' := ?_) ?_ ?_
               rotate_left
               ·show Act.put _ (some 19) _ = _
                simp only [Act.put, List.setIfInBounds_toArray, List.set_cons_zero, List.set_cons_succ, i64_w, i32_w]
                rfl
               exact norm_ (by simp only [putAll, Act.put, List.setIfInBounds_toArray, List.set_cons_zero, List.set_cons_succ]) (hCont (gb434) _ ⟨hHeld, (by (with_reducible repeat (first | refine blk_drewN ?_ _ | refine blk_drew ?_ | refine blk_alloc ?_ _)); exact BK374.out), (by (with_reducible repeat (first | refine blk_drewN ?_ _ | refine blk_drew ?_ | refine blk_alloc ?_ _)); exact BK375.out), (by (with_reducible repeat (first | refine blk_drewN ?_ _ | refine blk_drew ?_ | refine blk_alloc ?_ _)); exact BK385.out), (by (with_reducible repeat (first | refine blk_drewN ?_ _ | refine blk_drew ?_ | refine blk_alloc ?_ _)); exact BK393.out), (by (with_reducible repeat (first | refine blk_drewN ?_ _ | refine blk_drew ?_ | refine blk_alloc ?_ _)); exact BK400.out), (by (with_reducible repeat (first | refine blk_drewN ?_ _ | refine blk_drew ?_ | refine blk_alloc ?_ _)); exact BK407.out), (by (with_reducible repeat (first | refine blk_drewN ?_ _ | refine blk_drew ?_ | refine blk_alloc ?_ _)); exact BK414.out), (by (with_reducible repeat (first | refine blk_drewN ?_ _ | refine blk_drew ?_ | refine blk_alloc ?_ _)); exact BK421.out), (by (with_reducible repeat (first | refine blk_drewN ?_ _ | refine blk_drew ?_ | refine blk_alloc ?_ _)); exact BK434.out), GW434.out, GE434.out, NB374_434.out, NB434_374.out, NB375_434.out, NB434_375.out, NB385_434.out, NB434_385.out, NB393_434.out, NB434_393.out, NB400_434.out, NB434_400.out, NB407_434.out, NB434_407.out, NB414_434.out, NB434_414.out, NB421_434.out, NB434_421.out, (by repeat (first | (with_reducible first | exact HB.out | apply below_alloc | apply pw_below_drewN | apply below_drew1 | refine below_set ?_ GE374.out | refine below_set ?_ GE375.out | refine below_set ?_ GE385.out | refine below_set ?_ GE393.out | refine below_set ?_ GE400.out | refine below_set ?_ GE407.out | refine below_set ?_ GE414.out | refine below_set ?_ GE421.out | refine below_set ?_ GE434.out) | exact HB.out))⟩)
              ·skip
               refine box_step ?hg (N := 19) ?hd (cs := #[.int .u64 0, .int .u64 0, .int .u64 0, .int .i64 0, .int .i64 0, .bool false]) (t := 24) ?hr ?_; (case hd => rfl); (case hg => rfl); (case hr => first | (go_simp; done) | (go_simp; rfl))
               intro gb434 hg w697 hbox hb
               have n0_ := Aside0.mk (blk_below (g := gb374) (o := .cells #[.int .u64 a0_0, .int .u64 a0_1, .int .u64 a0_2, .int .i64 a0_3, .int .i64 a0_4, .bool a0_5] 24 (0, 0)) (by (with_reducible repeat (first | refine blk_drewN ?_ _ | refine blk_drew ?_ | refine blk_alloc ?_ _)); exact BK374.out) hb)
               have n1_ := Aside0.mk (blk_below (g := gb375) (o := .cells #[.int .u64 a1_0, .int .u64 a1_1, .int .u64 a1_2, .int .i64 a1_3, .int .i64 a1_4, .bool a1_5] 24 (0, 0)) (by (with_reducible repeat (first | refine blk_drewN ?_ _ | refine blk_drew ?_ | refine blk_alloc ?_ _)); exact BK375.out) hb)
               have n2_ := Aside0.mk (blk_below (g := gb385) (o := .cells #[.int .u64 t379, .int .u64 t380, .int .u64 t381, .int .i64 t382, .int .i64 t383, .bool true] 24 (0, 0)) (by (with_reducible repeat (first | refine blk_drewN ?_ _ | refine blk_drew ?_ | refine blk_alloc ?_ _)); exact BK385.out) hb)
               have n3_ := Aside0.mk (blk_below (g := gb393) (o := .cells #[.int .u64 t387, .int .u64 t388, .int .u64 t389, .int .i64 t390, .int .i64 t391, .bool false] 24 (0, 0)) (by (with_reducible repeat (first | refine blk_drewN ?_ _ | refine blk_drew ?_ | refine blk_alloc ?_ _)); exact BK393.out) hb)
               have n4_ := Aside0.mk (blk_below (g := gb400) (o := .cells #[.int .u64 t394, .int .u64 t395, .int .u64 t396, .int .i64 t397, .int .i64 t398, .bool false] 24 (0, 0)) (by (with_reducible repeat (first | refine blk_drewN ?_ _ | refine blk_drew ?_ | refine blk_alloc ?_ _)); exact BK400.out) hb)
               have n5_ := Aside0.mk (blk_below (g := gb407) (o := .cells #[.int .u64 t401, .int .u64 t402, .int .u64 t403, .int .i64 t404, .int .i64 t405, .bool false] 24 (0, 0)) (by (with_reducible repeat (first | refine blk_drewN ?_ _ | refine blk_drew ?_ | refine blk_alloc ?_ _)); exact BK407.out) hb)
               have n6_ := Aside0.mk (blk_below (g := gb414) (o := .cells #[.int .u64 t408, .int .u64 t409, .int .u64 t410, .int .i64 t411, .int .i64 t412, .bool false] 24 (0, 0)) (by (with_reducible repeat (first | refine blk_drewN ?_ _ | refine blk_drew ?_ | refine blk_alloc ?_ _)); exact BK414.out) hb)
               have n7_ := Aside0.mk (blk_below (g := gb421) (o := .cells #[.int .u64 t415, .int .u64 t416, .int .u64 t417, .int .i64 t418, .int .i64 t419, .bool t420] 24 (0, 0)) (by (with_reducible repeat (first | refine blk_drewN ?_ _ | refine blk_drew ?_ | refine blk_alloc ?_ _)); exact BK421.out) hb)
               have n8_ := Aside0.mk (below_step (by repeat (first | (with_reducible first | exact HB.out | apply below_alloc | apply pw_below_drewN | apply below_drew1 | refine below_set ?_ GE374.out | refine below_set ?_ GE375.out | refine below_set ?_ GE385.out | refine below_set ?_ GE393.out | refine below_set ?_ GE400.out | refine below_set ?_ GE407.out | refine below_set ?_ GE414.out | refine below_set ?_ GE421.out) | exact HB.out)) hb)
               have n9_ := Aside0.mk (hbox)
               have n10_ := Aside0.mk ((by rw [hg]; exact (below_size (by repeat (first | (with_reducible first | exact HB.out | apply below_alloc | apply pw_below_drewN | apply below_drew1 | refine below_set ?_ GE374.out | refine below_set ?_ GE375.out | refine below_set ?_ GE385.out | refine below_set ?_ GE393.out | refine below_set ?_ GE400.out | refine below_set ?_ GE407.out | refine below_set ?_ GE414.out | refine below_set ?_ GE421.out) | exact HB.out))) : w.heap.size ≤ gb434))
               have n11_ := Aside0.mk ((by rw [hg]; exact (below_size (by repeat (first | (with_reducible first | exact HB.out | apply below_alloc | apply pw_below_drewN | apply below_drew1 | refine below_set ?_ GE374.out | refine below_set ?_ GE375.out | refine below_set ?_ GE385.out | refine below_set ?_ GE393.out | refine below_set ?_ GE400.out | refine below_set ?_ GE407.out | refine below_set ?_ GE414.out | refine below_set ?_ GE421.out) | exact HB.out))) : w.heap.size ≤ gb434))
               have n12_ := Aside0.mk ((by rw [hg]; exact Nat.ne_of_lt (blk_lt (g := gb374) (o := .cells #[.int .u64 a0_0, .int .u64 a0_1, .int .u64 a0_2, .int .i64 a0_3, .int .i64 a0_4, .bool a0_5] 24 (0, 0)) (by (with_reducible repeat (first | refine blk_drewN ?_ _ | refine blk_drew ?_ | refine blk_alloc ?_ _)); exact BK374.out)) : gb374 ≠ gb434))
               have n13_ := Aside0.mk ((by rw [hg]; exact Nat.ne_of_gt (blk_lt (g := gb374) (o := .cells #[.int .u64 a0_0, .int .u64 a0_1, .int .u64 a0_2, .int .i64 a0_3, .int .i64 a0_4, .bool a0_5] 24 (0, 0)) (by (with_reducible repeat (first | refine blk_drewN ?_ _ | refine blk_drew ?_ | refine blk_alloc ?_ _)); exact BK374.out)) : gb434 ≠ gb374))
               have n14_ := Aside0.mk ((by rw [hg]; exact Nat.ne_of_lt (blk_lt (g := gb375) (o := .cells #[.int .u64 a1_0, .int .u64 a1_1, .int .u64 a1_2, .int .i64 a1_3, .int .i64 a1_4, .bool a1_5] 24 (0, 0)) (by (with_reducible repeat (first | refine blk_drewN ?_ _ | refine blk_drew ?_ | refine blk_alloc ?_ _)); exact BK375.out)) : gb375 ≠ gb434))
               have n15_ := Aside0.mk ((by rw [hg]; exact Nat.ne_of_gt (blk_lt (g := gb375) (o := .cells #[.int .u64 a1_0, .int .u64 a1_1, .int .u64 a1_2, .int .i64 a1_3, .int .i64 a1_4, .bool a1_5] 24 (0, 0)) (by (with_reducible repeat (first | refine blk_drewN ?_ _ | refine blk_drew ?_ | refine blk_alloc ?_ _)); exact BK375.out)) : gb434 ≠ gb375))
               have n16_ := Aside0.mk ((by rw [hg]; exact Nat.ne_of_lt (blk_lt (g := gb385) (o := .cells #[.int .u64 t379, .int .u64 t380, .int .u64 t381, .int .i64 t382, .int .i64 t383, .bool true] 24 (0, 0)) (by (with_reducible repeat (first | refine blk_drewN ?_ _ | refine blk_drew ?_ | refine blk_alloc ?_ _)); exact BK385.out)) : gb385 ≠ gb434))
               have n17_ := Aside0.mk ((by rw [hg]; exact Nat.ne_of_gt (blk_lt (g := gb385) (o := .cells #[.int .u64 t379, .int .u64 t380, .int .u64 t381, .int .i64 t382, .int .i64 t383, .bool true] 24 (0, 0)) (by (with_reducible repeat (first | refine blk_drewN ?_ _ | refine blk_drew ?_ | refine blk_alloc ?_ _)); exact BK385.out)) : gb434 ≠ gb385))
               have n18_ := Aside0.mk ((by rw [hg]; exact Nat.ne_of_lt (blk_lt (g := gb393) (o := .cells #[.int .u64 t387, .int .u64 t388, .int .u64 t389, .int .i64 t390, .int .i64 t391, .bool false] 24 (0, 0)) (by (with_reducible repeat (first | refine blk_drewN ?_ _ | refine blk_drew ?_ | refine blk_alloc ?_ _)); exact BK393.out)) : gb393 ≠ gb434))
               have n19_ := Aside0.mk ((by rw [hg]; exact Nat.ne_of_gt (blk_lt (g := gb393) (o := .cells #[.int .u64 t387, .int .u64 t388, .int .u64 t389, .int .i64 t390, .int .i64 t391, .bool false] 24 (0, 0)) (by (with_reducible repeat (first | refine blk_drewN ?_ _ | refine blk_drew ?_ | refine blk_alloc ?_ _)); exact BK393.out)) : gb434 ≠ gb393))
               have n20_ := Aside0.mk ((by rw [hg]; exact Nat.ne_of_lt (blk_lt (g := gb400) (o := .cells #[.int .u64 t394, .int .u64 t395, .int .u64 t396, .int .i64 t397, .int .i64 t398, .bool false] 24 (0, 0)) (by (with_reducible repeat (first | refine blk_drewN ?_ _ | refine blk_drew ?_ | refine blk_alloc ?_ _)); exact BK400.out)) : gb400 ≠ gb434))
               have n21_ := Aside0.mk ((by rw [hg]; exact Nat.ne_of_gt (blk_lt (g := gb400) (o := .cells #[.int .u64 t394, .int .u64 t395, .int .u64 t396, .int .i64 t397, .int .i64 t398, .bool false] 24 (0, 0)) (by (with_reducible repeat (first | refine blk_drewN ?_ _ | refine blk_drew ?_ | refine blk_alloc ?_ _)); exact BK400.out)) : gb434 ≠ gb400))
               have n22_ := Aside0.mk ((by rw [hg]; exact Nat.ne_of_lt (blk_lt (g := gb407) (o := .cells #[.int .u64 t401, .int .u64 t402, .int .u64 t403, .int .i64 t404, .int .i64 t405, .bool false] 24 (0, 0)) (by (with_reducible repeat (first | refine blk_drewN ?_ _ | refine blk_drew ?_ | refine blk_alloc ?_ _)); exact BK407.out)) : gb407 ≠ gb434))
               have n23_ := Aside0.mk ((by rw [hg]; exact Nat.ne_of_gt (blk_lt (g := gb407) (o := .cells #[.int .u64 t401, .int .u64 t402, .int .u64 t403, .int .i64 t404, .int .i64 t405, .bool false] 24 (0, 0)) (by (with_reducible repeat (first | refine blk_drewN ?_ _ | refine blk_drew ?_ | refine blk_alloc ?_ _)); exact BK407.out)) : gb434 ≠ gb407))
               have n24_ := Aside0.mk ((by rw [hg]; exact Nat.ne_of_lt (blk_lt (g := gb414) (o := .cells #[.int .u64 t408, .int .u64 t409, .int .u64 t410, .int .i64 t411, .int .i64 t412, .bool false] 24 (0, 0)) (by (with_reducible repeat (first | refine blk_drewN ?_ _ | refine blk_drew ?_ | refine blk_alloc ?_ _)); exact BK414.out)) : gb414 ≠ gb434))
               have n25_ := Aside0.mk ((by rw [hg]; exact Nat.ne_of_gt (blk_lt (g := gb414) (o := .cells #[.int .u64 t408, .int .u64 t409, .int .u64 t410, .int .i64 t411, .int .i64 t412, .bool false] 24 (0, 0)) (by (with_reducible repeat (first | refine blk_drewN ?_ _ | refine blk_drew ?_ | refine blk_alloc ?_ _)); exact BK414.out)) : gb434 ≠ gb414))
               have n26_ := Aside0.mk ((by rw [hg]; exact Nat.ne_of_lt (blk_lt (g := gb421) (o := .cells #[.int .u64 t415, .int .u64 t416, .int .u64 t417, .int .i64 t418, .int .i64 t419, .bool t420] 24 (0, 0)) (by (with_reducible repeat (first | refine blk_drewN ?_ _ | refine blk_drew ?_ | refine blk_alloc ?_ _)); exact BK421.out)) : gb421 ≠ gb434))
               have n27_ := Aside0.mk ((by rw [hg]; exact Nat.ne_of_gt (blk_lt (g := gb421) (o := .cells #[.int .u64 t415, .int .u64 t416, .int .u64 t417, .int .i64 t418, .int .i64 t419, .bool t420] 24 (0, 0)) (by (with_reducible repeat (first | refine blk_drewN ?_ _ | refine blk_drew ?_ | refine blk_alloc ?_ _)); exact BK421.out)) : gb434 ≠ gb421))
               clear BK374
               clear BK375
               clear BK385
               clear BK393
               clear BK400
               clear BK407
               clear BK414
               clear BK421
               clear HB
               have BK374 := n0_
               have BK375 := n1_
               have BK385 := n2_
               have BK393 := n3_
               have BK400 := n4_
               have BK407 := n5_
               have BK414 := n6_
               have BK421 := n7_
               have HB := n8_
               have BK434 := n9_
               have GW434 := n10_
               have GE434 := n11_
               have NB374_434 := n12_
               have NB434_374 := n13_
               have NB375_434 := n14_
               have NB434_375 := n15_
               have NB385_434 := n16_
               have NB434_385 := n17_
               have NB393_434 := n18_
               have NB434_393 := n19_
               have NB400_434 := n20_
               have NB434_400 := n21_
               have NB407_434 := n22_
               have NB434_407 := n23_
               have NB414_434 := n24_
               have NB434_414 := n25_
               have NB421_434 := n26_
               have NB434_421 := n27_
               clear n0_ n1_ n2_ n3_ n4_ n5_ n6_ n7_ n8_ n9_ n10_ n11_ n12_ n13_ n14_ n15_ n16_ n17_ n18_ n19_ n20_ n21_ n22_ n23_ n24_ n25_ n26_ n27_
               clear hb hbox hg
               refine hK.out _ _ ⟨(blk_cell BK385.out 0).trans rfl, (blk_cell BK385.out 1).trans rfl, (blk_cell BK385.out 2).trans rfl, (blk_cell BK385.out 3).trans rfl, (blk_cell BK385.out 4).trans rfl, (blk_cell BK385.out 5).trans rfl, (blk_cell BK375.out 0).trans rfl, (blk_cell BK375.out 1).trans rfl, (blk_cell BK375.out 2).trans rfl, (blk_cell BK375.out 3).trans rfl, (blk_cell BK375.out 4).trans rfl, (blk_cell BK375.out 5).trans rfl⟩ (fun hHeld => ?_)
               clear hK K
               refine norm_ (a' := ?_) ?_ ?_
               rotate_left
               ·show Act.put _ (some 19) _ = _
                simp only [Act.put, List.setIfInBounds_toArray, List.set_cons_zero, List.set_cons_succ, i64_w, i32_w]
                rfl
               refine one_ (i := 4) (N := some 71) #[true, true, true, true, true, true, false] rfl rfl (by kernel_rfl) (by decide) (fun K hK => ?_)
               refine goes_ Tryd.func13 (by kernel_rfl) rfl #[.agg #[.int .u64 t379, .int .u64 t380, .int .u64 t381, .int .i64 t382, .int .i64 t383, .bool true], .agg #[.int .u64 t422, .int .u64 t423, .int .u64 t424, .int .i64 t425, .int .i64 t426, .bool t427]] (by rfl) rfl rfl (by (try simp only [List.map_toArray, List.map_cons, List.map_nil]); first | done | rfl | (simp only [List.length_drop, List.length_take]; rfl)) ?_
               with_reducible refine (cap_Unseal.calls t379 t380 t381 t382 t383 true t422 t423 t424 t425 t426 t427 t428 t429 t430 t431 t432 t433 _ A30.out).mono ?_
               rintro e w698 ⟨rfl, hb⟩
               refine ⟨_, rfl, ?_⟩
               have n0_ := Aside0.mk (blk_below (g := gb374) (o := .cells #[.int .u64 a0_0, .int .u64 a0_1, .int .u64 a0_2, .int .i64 a0_3, .int .i64 a0_4, .bool a0_5] 24 (0, 0)) (by (with_reducible repeat (first | refine blk_drewN ?_ _ | refine blk_drew ?_ | refine blk_alloc ?_ _)); exact BK374.out) hb)
               have n1_ := Aside0.mk (blk_below (g := gb375) (o := .cells #[.int .u64 a1_0, .int .u64 a1_1, .int .u64 a1_2, .int .i64 a1_3, .int .i64 a1_4, .bool a1_5] 24 (0, 0)) (by (with_reducible repeat (first | refine blk_drewN ?_ _ | refine blk_drew ?_ | refine blk_alloc ?_ _)); exact BK375.out) hb)
               have n2_ := Aside0.mk (blk_below (g := gb385) (o := .cells #[.int .u64 t379, .int .u64 t380, .int .u64 t381, .int .i64 t382, .int .i64 t383, .bool true] 24 (0, 0)) (by (with_reducible repeat (first | refine blk_drewN ?_ _ | refine blk_drew ?_ | refine blk_alloc ?_ _)); exact BK385.out) hb)
               have n3_ := Aside0.mk (blk_below (g := gb393) (o := .cells #[.int .u64 t387, .int .u64 t388, .int .u64 t389, .int .i64 t390, .int .i64 t391, .bool false] 24 (0, 0)) (by (with_reducible repeat (first | refine blk_drewN ?_ _ | refine blk_drew ?_ | refine blk_alloc ?_ _)); exact BK393.out) hb)
               have n4_ := Aside0.mk (blk_below (g := gb400) (o := .cells #[.int .u64 t394, .int .u64 t395, .int .u64 t396, .int .i64 t397, .int .i64 t398, .bool false] 24 (0, 0)) (by (with_reducible repeat (first | refine blk_drewN ?_ _ | refine blk_drew ?_ | refine blk_alloc ?_ _)); exact BK400.out) hb)
               have n5_ := Aside0.mk (blk_below (g := gb407) (o := .cells #[.int .u64 t401, .int .u64 t402, .int .u64 t403, .int .i64 t404, .int .i64 t405, .bool false] 24 (0, 0)) (by (with_reducible repeat (first | refine blk_drewN ?_ _ | refine blk_drew ?_ | refine blk_alloc ?_ _)); exact BK407.out) hb)
               have n6_ := Aside0.mk (blk_below (g := gb414) (o := .cells #[.int .u64 t408, .int .u64 t409, .int .u64 t410, .int .i64 t411, .int .i64 t412, .bool false] 24 (0, 0)) (by (with_reducible repeat (first | refine blk_drewN ?_ _ | refine blk_drew ?_ | refine blk_alloc ?_ _)); exact BK414.out) hb)
               have n7_ := Aside0.mk (blk_below (g := gb421) (o := .cells #[.int .u64 t415, .int .u64 t416, .int .u64 t417, .int .i64 t418, .int .i64 t419, .bool t420] 24 (0, 0)) (by (with_reducible repeat (first | refine blk_drewN ?_ _ | refine blk_drew ?_ | refine blk_alloc ?_ _)); exact BK421.out) hb)
               have n8_ := Aside0.mk (blk_below (g := gb434) (o := .cells #[.int .u64 0, .int .u64 0, .int .u64 0, .int .i64 0, .int .i64 0, .bool false] 24 (0, 0)) (by (with_reducible repeat (first | refine blk_drewN ?_ _ | refine blk_drew ?_ | refine blk_alloc ?_ _)); exact BK434.out) hb)
               have n9_ := Aside0.mk (below_step (by repeat (first | (with_reducible first | exact HB.out | apply below_alloc | apply pw_below_drewN | apply below_drew1 | refine below_set ?_ GE374.out | refine below_set ?_ GE375.out | refine below_set ?_ GE385.out | refine below_set ?_ GE393.out | refine below_set ?_ GE400.out | refine below_set ?_ GE407.out | refine below_set ?_ GE414.out | refine below_set ?_ GE421.out | refine below_set ?_ GE434.out) | exact HB.out)) hb)
               clear BK374
               clear BK375
               clear BK385
               clear BK393
               clear BK400
               clear BK407
               clear BK414
               clear BK421
               clear BK434
               clear HB
               have BK374 := n0_
               have BK375 := n1_
               have BK385 := n2_
               have BK393 := n3_
               have BK400 := n4_
               have BK407 := n5_
               have BK414 := n6_
               have BK421 := n7_
               have BK434 := n8_
               have HB := n9_
               clear n0_ n1_ n2_ n3_ n4_ n5_ n6_ n7_ n8_ n9_
               (try clear hb)
               (try clear hb2)
               (try clear hk)
               (try clear hi)
               refine hK.out _ _ ⟨(blk_cell BK385.out 0).trans rfl, (blk_cell BK385.out 1).trans rfl, (blk_cell BK385.out 2).trans rfl, (blk_cell BK385.out 3).trans rfl, (blk_cell BK385.out 4).trans rfl, (blk_cell BK385.out 5).trans rfl, (blk_cell BK375.out 0).trans rfl, (blk_cell BK375.out 1).trans rfl, (blk_cell BK375.out 2).trans rfl, (blk_cell BK375.out 3).trans rfl, (blk_cell BK375.out 4).trans rfl, (blk_cell BK375.out 5).trans rfl⟩ (fun hHeld => ?_)
               clear hK K
               refine norm_ (a' := ?_) ?_ ?_
               rotate_left
               ·show Act.put _ (some 71) _ = _
                simp only [Act.put, List.setIfInBounds_toArray, List.set_cons_zero, List.set_cons_succ, i64_w, i32_w]
                rfl
               exact norm_ (by simp only [putAll, Act.put, List.setIfInBounds_toArray, List.set_cons_zero, List.set_cons_succ]) (hCont (gb434) _ ⟨hHeld, (by (with_reducible repeat (first | refine blk_drewN ?_ _ | refine blk_drew ?_ | refine blk_alloc ?_ _)); exact BK374.out), (by (with_reducible repeat (first | refine blk_drewN ?_ _ | refine blk_drew ?_ | refine blk_alloc ?_ _)); exact BK375.out), (by (with_reducible repeat (first | refine blk_drewN ?_ _ | refine blk_drew ?_ | refine blk_alloc ?_ _)); exact BK385.out), (by (with_reducible repeat (first | refine blk_drewN ?_ _ | refine blk_drew ?_ | refine blk_alloc ?_ _)); exact BK393.out), (by (with_reducible repeat (first | refine blk_drewN ?_ _ | refine blk_drew ?_ | refine blk_alloc ?_ _)); exact BK400.out), (by (with_reducible repeat (first | refine blk_drewN ?_ _ | refine blk_drew ?_ | refine blk_alloc ?_ _)); exact BK407.out), (by (with_reducible repeat (first | refine blk_drewN ?_ _ | refine blk_drew ?_ | refine blk_alloc ?_ _)); exact BK414.out), (by (with_reducible repeat (first | refine blk_drewN ?_ _ | refine blk_drew ?_ | refine blk_alloc ?_ _)); exact BK421.out), (by (with_reducible repeat (first | refine blk_drewN ?_ _ | refine blk_drew ?_ | refine blk_alloc ?_ _)); exact BK434.out), GW434.out, GE434.out, NB374_434.out, NB434_374.out, NB375_434.out, NB434_375.out, NB385_434.out, NB434_385.out, NB393_434.out, NB434_393.out, NB400_434.out, NB434_400.out, NB407_434.out, NB434_407.out, NB414_434.out, NB434_414.out, NB421_434.out, NB434_421.out, (by repeat (first | (with_reducible first | exact HB.out | apply below_alloc | apply pw_below_drewN | apply below_drew1 | refine below_set ?_ GE374.out | refine below_set ?_ GE375.out | refine below_set ?_ GE385.out | refine below_set ?_ GE393.out | refine below_set ?_ GE400.out | refine below_set ?_ GE407.out | refine below_set ?_ GE414.out | refine below_set ?_ GE421.out | refine below_set ?_ GE434.out) | exact HB.out))⟩)
             ·skip
              refine box_step ?hg (N := 19) ?hd (cs := #[.int .u64 0, .int .u64 0, .int .u64 0, .int .i64 0, .int .i64 0, .bool false]) (t := 24) ?hr ?_; (case hd => rfl); (case hg => rfl); (case hr => first | (go_simp; done) | (go_simp; rfl))
              intro gb434 hg w696 hbox hb
              have n0_ := Aside0.mk (blk_below (g := gb374) (o := .cells #[.int .u64 a0_0, .int .u64 a0_1, .int .u64 a0_2, .int .i64 a0_3, .int .i64 a0_4, .bool a0_5] 24 (0, 0)) (by (with_reducible repeat (first | refine blk_drewN ?_ _ | refine blk_drew ?_ | refine blk_alloc ?_ _)); exact BK374.out) hb)
              have n1_ := Aside0.mk (blk_below (g := gb375) (o := .cells #[.int .u64 a1_0, .int .u64 a1_1, .int .u64 a1_2, .int .i64 a1_3, .int .i64 a1_4, .bool a1_5] 24 (0, 0)) (by (with_reducible repeat (first | refine blk_drewN ?_ _ | refine blk_drew ?_ | refine blk_alloc ?_ _)); exact BK375.out) hb)
              have n2_ := Aside0.mk (blk_below (g := gb385) (o := .cells #[.int .u64 t379, .int .u64 t380, .int .u64 t381, .int .i64 t382, .int .i64 t383, .bool true] 24 (0, 0)) (by (with_reducible repeat (first | refine blk_drewN ?_ _ | refine blk_drew ?_ | refine blk_alloc ?_ _)); exact BK385.out) hb)
              have n3_ := Aside0.mk (blk_below (g := gb393) (o := .cells #[.int .u64 t387, .int .u64 t388, .int .u64 t389, .int .i64 t390, .int .i64 t391, .bool false] 24 (0, 0)) (by (with_reducible repeat (first | refine blk_drewN ?_ _ | refine blk_drew ?_ | refine blk_alloc ?_ _)); exact BK393.out) hb)
              have n4_ := Aside0.mk (blk_below (g := gb400) (o := .cells #[.int .u64 t394, .int .u64 t395, .int .u64 t396, .int .i64 t397, .int .i64 t398, .bool false] 24 (0, 0)) (by (with_reducible repeat (first | refine blk_drewN ?_ _ | refine blk_drew ?_ | refine blk_alloc ?_ _)); exact BK400.out) hb)
              have n5_ := Aside0.mk (blk_below (g := gb407) (o := .cells #[.int .u64 t401, .int .u64 t402, .int .u64 t403, .int .i64 t404, .int .i64 t405, .bool false] 24 (0, 0)) (by (with_reducible repeat (first | refine blk_drewN ?_ _ | refine blk_drew ?_ | refine blk_alloc ?_ _)); exact BK407.out) hb)
              have n6_ := Aside0.mk (blk_below (g := gb414) (o := .cells #[.int .u64 t408, .int .u64 t409, .int .u64 t410, .int .i64 t411, .int .i64 t412, .bool false] 24 (0, 0)) (by (with_reducible repeat (first | refine blk_drewN ?_ _ | refine blk_drew ?_ | refine blk_alloc ?_ _)); exact BK414.out) hb)
              have n7_ := Aside0.mk (blk_below (g := gb421) (o := .cells #[.int .u64 t415, .int .u64 t416, .int .u64 t417, .int .i64 t418, .int .i64 t419, .bool t420] 24 (0, 0)) (by (with_reducible repeat (first | refine blk_drewN ?_ _ | refine blk_drew ?_ | refine blk_alloc ?_ _)); exact BK421.out) hb)
              have n8_ := Aside0.mk (below_step (by repeat (first | (with_reducible first | exact HB.out | apply below_alloc | apply pw_below_drewN | apply below_drew1 | refine below_set ?_ GE374.out | refine below_set ?_ GE375.out | refine below_set ?_ GE385.out | refine below_set ?_ GE393.out | refine below_set ?_ GE400.out | refine below_set ?_ GE407.out | refine below_set ?_ GE414.out | refine below_set ?_ GE421.out) | exact HB.out)) hb)
              have n9_ := Aside0.mk (hbox)
              have n10_ := Aside0.mk ((by rw [hg]; exact (below_size (by repeat (first | (with_reducible first | exact HB.out | apply below_alloc | apply pw_below_drewN | apply below_drew1 | refine below_set ?_ GE374.out | refine below_set ?_ GE375.out | refine below_set ?_ GE385.out | refine below_set ?_ GE393.out | refine below_set ?_ GE400.out | refine below_set ?_ GE407.out | refine below_set ?_ GE414.out | refine below_set ?_ GE421.out) | exact HB.out))) : w.heap.size ≤ gb434))
              have n11_ := Aside0.mk ((by rw [hg]; exact (below_size (by repeat (first | (with_reducible first | exact HB.out | apply below_alloc | apply pw_below_drewN | apply below_drew1 | refine below_set ?_ GE374.out | refine below_set ?_ GE375.out | refine below_set ?_ GE385.out | refine below_set ?_ GE393.out | refine below_set ?_ GE400.out | refine below_set ?_ GE407.out | refine below_set ?_ GE414.out | refine below_set ?_ GE421.out) | exact HB.out))) : w.heap.size ≤ gb434))
              have n12_ := Aside0.mk ((by rw [hg]; exact Nat.ne_of_lt (blk_lt (g := gb374) (o := .cells #[.int .u64 a0_0, .int .u64 a0_1, .int .u64 a0_2, .int .i64 a0_3, .int .i64 a0_4, .bool a0_5] 24 (0, 0)) (by (with_reducible repeat (first | refine blk_drewN ?_ _ | refine blk_drew ?_ | refine blk_alloc ?_ _)); exact BK374.out)) : gb374 ≠ gb434))
              have n13_ := Aside0.mk ((by rw [hg]; exact Nat.ne_of_gt (blk_lt (g := gb374) (o := .cells #[.int .u64 a0_0, .int .u64 a0_1, .int .u64 a0_2, .int .i64 a0_3, .int .i64 a0_4, .bool a0_5] 24 (0, 0)) (by (with_reducible repeat (first | refine blk_drewN ?_ _ | refine blk_drew ?_ | refine blk_alloc ?_ _)); exact BK374.out)) : gb434 ≠ gb374))
              have n14_ := Aside0.mk ((by rw [hg]; exact Nat.ne_of_lt (blk_lt (g := gb375) (o := .cells #[.int .u64 a1_0, .int .u64 a1_1, .int .u64 a1_2, .int .i64 a1_3, .int .i64 a1_4, .bool a1_5] 24 (0, 0)) (by (with_reducible repeat (first | refine blk_drewN ?_ _ | refine blk_drew ?_ | refine blk_alloc ?_ _)); exact BK375.out)) : gb375 ≠ gb434))
              have n15_ := Aside0.mk ((by rw [hg]; exact Nat.ne_of_gt (blk_lt (g := gb375) (o := .cells #[.int .u64 a1_0, .int .u64 a1_1, .int .u64 a1_2, .int .i64 a1_3, .int .i64 a1_4, .bool a1_5] 24 (0, 0)) (by (with_reducible repeat (first | refine blk_drewN ?_ _ | refine blk_drew ?_ | refine blk_alloc ?_ _)); exact BK375.out)) : gb434 ≠ gb375))
              have n16_ := Aside0.mk ((by rw [hg]; exact Nat.ne_of_lt (blk_lt (g := gb385) (o := .cells #[.int .u64 t379, .int .u64 t380, .int .u64 t381, .int .i64 t382, .int .i64 t383, .bool true] 24 (0, 0)) (by (with_reducible repeat (first | refine blk_drewN ?_ _ | refine blk_drew ?_ | refine blk_alloc ?_ _)); exact BK385.out)) : gb385 ≠ gb434))
              have n17_ := Aside0.mk ((by rw [hg]; exact Nat.ne_of_gt (blk_lt (g := gb385) (o := .cells #[.int .u64 t379, .int .u64 t380, .int .u64 t381, .int .i64 t382, .int .i64 t383, .bool true] 24 (0, 0)) (by (with_reducible repeat (first | refine blk_drewN ?_ _ | refine blk_drew ?_ | refine blk_alloc ?_ _)); exact BK385.out)) : gb434 ≠ gb385))
              have n18_ := Aside0.mk ((by rw [hg]; exact Nat.ne_of_lt (blk_lt (g := gb393) (o := .cells #[.int .u64 t387, .int .u64 t388, .int .u64 t389, .int .i64 t390, .int .i64 t391, .bool false] 24 (0, 0)) (by (with_reducible repeat (first | refine blk_drewN ?_ _ | refine blk_drew ?_ | refine blk_alloc ?_ _)); exact BK393.out)) : gb393 ≠ gb434))
              have n19_ := Aside0.mk ((by rw [hg]; exact Nat.ne_of_gt (blk_lt (g := gb393) (o := .cells #[.int .u64 t387, .int .u64 t388, .int .u64 t389, .int .i64 t390, .int .i64 t391, .bool false] 24 (0, 0)) (by (with_reducible repeat (first | refine blk_drewN ?_ _ | refine blk_drew ?_ | refine blk_alloc ?_ _)); exact BK393.out)) : gb434 ≠ gb393))
              have n20_ := Aside0.mk ((by rw [hg]; exact Nat.ne_of_lt (blk_lt (g := gb400) (o := .cells #[.int .u64 t394, .int .u64 t395, .int .u64 t396, .int .i64 t397, .int .i64 t398, .bool false] 24 (0, 0)) (by (with_reducible repeat (first | refine blk_drewN ?_ _ | refine blk_drew ?_ | refine blk_alloc ?_ _)); exact BK400.out)) : gb400 ≠ gb434))
              have n21_ := Aside0.mk ((by rw [hg]; exact Nat.ne_of_gt (blk_lt (g := gb400) (o := .cells #[.int .u64 t394, .int .u64 t395, .int .u64 t396, .int .i64 t397, .int .i64 t398, .bool false] 24 (0, 0)) (by (with_reducible repeat (first | refine blk_drewN ?_ _ | refine blk_drew ?_ | refine blk_alloc ?_ _)); exact BK400.out)) : gb434 ≠ gb400))
              have n22_ := Aside0.mk ((by rw [hg]; exact Nat.ne_of_lt (blk_lt (g := gb407) (o := .cells #[.int .u64 t401, .int .u64 t402, .int .u64 t403, .int .i64 t404, .int .i64 t405, .bool false] 24 (0, 0)) (by (with_reducible repeat (first | refine blk_drewN ?_ _ | refine blk_drew ?_ | refine blk_alloc ?_ _)); exact BK407.out)) : gb407 ≠ gb434))
              have n23_ := Aside0.mk ((by rw [hg]; exact Nat.ne_of_gt (blk_lt (g := gb407) (o := .cells #[.int .u64 t401, .int .u64 t402, .int .u64 t403, .int .i64 t404, .int .i64 t405, .bool false] 24 (0, 0)) (by (with_reducible repeat (first | refine blk_drewN ?_ _ | refine blk_drew ?_ | refine blk_alloc ?_ _)); exact BK407.out)) : gb434 ≠ gb407))
              have n24_ := Aside0.mk ((by rw [hg]; exact Nat.ne_of_lt (blk_lt (g := gb414) (o := .cells #[.int .u64 t408, .int .u64 t409, .int .u64 t410, .int .i64 t411, .int .i64 t412, .bool false] 24 (0, 0)) (by (with_reducible repeat (first | refine blk_drewN ?_ _ | refine blk_drew ?_ | refine blk_alloc ?_ _)); exact BK414.out)) : gb414 ≠ gb434))
              have n25_ := Aside0.mk ((by rw [hg]; exact Nat.ne_of_gt (blk_lt (g := gb414) (o := .cells #[.int .u64 t408, .int .u64 t409, .int .u64 t410, .int .i64 t411, .int .i64 t412, .bool false] 24 (0, 0)) (by (with_reducible repeat (first | refine blk_drewN ?_ _ | refine blk_drew ?_ | refine blk_alloc ?_ _)); exact BK414.out)) : gb434 ≠ gb414))
              have n26_ := Aside0.mk ((by rw [hg]; exact Nat.ne_of_lt (blk_lt (g := gb421) (o := .cells #[.int .u64 t415, .int .u64 t416, .int .u64 t417, .int .i64 t418, .int .i64 t419, .bool t420] 24 (0, 0)) (by (with_reducible repeat (first | refine blk_drewN ?_ _ | refine blk_drew ?_ | refine blk_alloc ?_ _)); exact BK421.out)) : gb421 ≠ gb434))
              have n27_ := Aside0.mk ((by rw [hg]; exact Nat.ne_of_gt (blk_lt (g := gb421) (o := .cells #[.int .u64 t415, .int .u64 t416, .int .u64 t417, .int .i64 t418, .int .i64 t419, .bool t420] 24 (0, 0)) (by (with_reducible repeat (first | refine blk_drewN ?_ _ | refine blk_drew ?_ | refine blk_alloc ?_ _)); exact BK421.out)) : gb434 ≠ gb421))
              clear BK374
              clear BK375
              clear BK385
              clear BK393
              clear BK400
              clear BK407
              clear BK414
              clear BK421
              clear HB
              have BK374 := n0_
              have BK375 := n1_
              have BK385 := n2_
              have BK393 := n3_
              have BK400 := n4_
              have BK407 := n5_
              have BK414 := n6_
              have BK421 := n7_
              have HB := n8_
              have BK434 := n9_
              have GW434 := n10_
              have GE434 := n11_
              have NB374_434 := n12_
              have NB434_374 := n13_
              have NB375_434 := n14_
              have NB434_375 := n15_
              have NB385_434 := n16_
              have NB434_385 := n17_
              have NB393_434 := n18_
              have NB434_393 := n19_
              have NB400_434 := n20_
              have NB434_400 := n21_
              have NB407_434 := n22_
              have NB434_407 := n23_
              have NB414_434 := n24_
              have NB434_414 := n25_
              have NB421_434 := n26_
              have NB434_421 := n27_
              clear n0_ n1_ n2_ n3_ n4_ n5_ n6_ n7_ n8_ n9_ n10_ n11_ n12_ n13_ n14_ n15_ n16_ n17_ n18_ n19_ n20_ n21_ n22_ n23_ n24_ n25_ n26_ n27_
              clear hb hbox hg
              refine hK.out _ _ ⟨(blk_cell BK385.out 0).trans rfl, (blk_cell BK385.out 1).trans rfl, (blk_cell BK385.out 2).trans rfl, (blk_cell BK385.out 3).trans rfl, (blk_cell BK385.out 4).trans rfl, (blk_cell BK385.out 5).trans rfl, (blk_cell BK375.out 0).trans rfl, (blk_cell BK375.out 1).trans rfl, (blk_cell BK375.out 2).trans rfl, (blk_cell BK375.out 3).trans rfl, (blk_cell BK375.out 4).trans rfl, (blk_cell BK375.out 5).trans rfl⟩ (fun hHeld => ?_)
              clear hK K
              refine norm_ (a' := ?_) ?_ ?_
              rotate_left
              ·show Act.put _ (some 19) _ = _
               simp only [Act.put, List.setIfInBounds_toArray, List.set_cons_zero, List.set_cons_succ, i64_w, i32_w]
               rfl
              refine one_ (i := 3) (N := some 70) #[true, true, true, true, false, true, false] rfl rfl (by kernel_rfl) (by decide) (fun K hK => ?_)
              refine goes_ Tryd.func18 (by kernel_rfl) rfl #[.agg #[.int .u64 a1_0, .int .u64 a1_1, .int .u64 a1_2, .int .i64 a1_3, .int .i64 a1_4, .bool a1_5], .int .u64 a2] (by rfl) rfl rfl (by (try simp only [List.map_toArray, List.map_cons, List.map_nil]); first | done | rfl | (simp only [List.length_drop, List.length_take]; rfl)) ?_
              with_reducible refine (cap_Move.calls a1_0 a1_1 a1_2 a1_3 a1_4 a1_5 a2 t422 t423 t424 t425 t426 t427 _ A29.out).mono ?_
              rintro e w697 ⟨rfl, hb⟩
              refine ⟨_, rfl, ?_⟩
              have n0_ := Aside0.mk (blk_below (g := gb374) (o := .cells #[.int .u64 a0_0, .int .u64 a0_1, .int .u64 a0_2, .int .i64 a0_3, .int .i64 a0_4, .bool a0_5] 24 (0, 0)) (by (with_reducible repeat (first | refine blk_drewN ?_ _ | refine blk_drew ?_ | refine blk_alloc ?_ _)); exact BK374.out) hb)
              have n1_ := Aside0.mk (blk_below (g := gb375) (o := .cells #[.int .u64 a1_0, .int .u64 a1_1, .int .u64 a1_2, .int .i64 a1_3, .int .i64 a1_4, .bool a1_5] 24 (0, 0)) (by (with_reducible repeat (first | refine blk_drewN ?_ _ | refine blk_drew ?_ | refine blk_alloc ?_ _)); exact BK375.out) hb)
              have n2_ := Aside0.mk (blk_below (g := gb385) (o := .cells #[.int .u64 t379, .int .u64 t380, .int .u64 t381, .int .i64 t382, .int .i64 t383, .bool true] 24 (0, 0)) (by (with_reducible repeat (first | refine blk_drewN ?_ _ | refine blk_drew ?_ | refine blk_alloc ?_ _)); exact BK385.out) hb)
              have n3_ := Aside0.mk (blk_below (g := gb393) (o := .cells #[.int .u64 t387, .int .u64 t388, .int .u64 t389, .int .i64 t390, .int .i64 t391, .bool false] 24 (0, 0)) (by (with_reducible repeat (first | refine blk_drewN ?_ _ | refine blk_drew ?_ | refine blk_alloc ?_ _)); exact BK393.out) hb)
              have n4_ := Aside0.mk (blk_below (g := gb400) (o := .cells #[.int .u64 t394, .int .u64 t395, .int .u64 t396, .int .i64 t397, .int .i64 t398, .bool false] 24 (0, 0)) (by (with_reducible repeat (first | refine blk_drewN ?_ _ | refine blk_drew ?_ | refine blk_alloc ?_ _)); exact BK400.out) hb)
              have n5_ := Aside0.mk (blk_below (g := gb407) (o := .cells #[.int .u64 t401, .int .u64 t402, .int .u64 t403, .int .i64 t404, .int .i64 t405, .bool false] 24 (0, 0)) (by (with_reducible repeat (first | refine blk_drewN ?_ _ | refine blk_drew ?_ | refine blk_alloc ?_ _)); exact BK407.out) hb)
              have n6_ := Aside0.mk (blk_below (g := gb414) (o := .cells #[.int .u64 t408, .int .u64 t409, .int .u64 t410, .int .i64 t411, .int .i64 t412, .bool false] 24 (0, 0)) (by (with_reducible repeat (first | refine blk_drewN ?_ _ | refine blk_drew ?_ | refine blk_alloc ?_ _)); exact BK414.out) hb)
              have n7_ := Aside0.mk (blk_below (g := gb421) (o := .cells #[.int .u64 t415, .int .u64 t416, .int .u64 t417, .int .i64 t418, .int .i64 t419, .bool t420] 24 (0, 0)) (by (with_reducible repeat (first | refine blk_drewN ?_ _ | refine blk_drew ?_ | refine blk_alloc ?_ _)); exact BK421.out) hb)
              have n8_ := Aside0.mk (blk_below (g := gb434) (o := .cells #[.int .u64 0, .int .u64 0, .int .u64 0, .int .i64 0, .int .i64 0, .bool false] 24 (0, 0)) (by (with_reducible repeat (first | refine blk_drewN ?_ _ | refine blk_drew ?_ | refine blk_alloc ?_ _)); exact BK434.out) hb)
              have n9_ := Aside0.mk (below_step (by repeat (first | (with_reducible first | exact HB.out | apply below_alloc | apply pw_below_drewN | apply below_drew1 | refine below_set ?_ GE374.out | refine below_set ?_ GE375.out | refine below_set ?_ GE385.out | refine below_set ?_ GE393.out | refine below_set ?_ GE400.out | refine below_set ?_ GE407.out | refine below_set ?_ GE414.out | refine below_set ?_ GE421.out | refine below_set ?_ GE434.out) | exact HB.out)) hb)
              clear BK374
              clear BK375
              clear BK385
              clear BK393
              clear BK400
              clear BK407
              clear BK414
              clear BK421
              clear BK434
              clear HB
              have BK374 := n0_
              have BK375 := n1_
              have BK385 := n2_
              have BK393 := n3_
              have BK400 := n4_
              have BK407 := n5_
              have BK414 := n6_
              have BK421 := n7_
              have BK434 := n8_
              have HB := n9_
              clear n0_ n1_ n2_ n3_ n4_ n5_ n6_ n7_ n8_ n9_
              (try clear hb)
              (try clear hb2)
              (try clear hk)
              (try clear hi)
              refine hK.out _ _ ⟨(blk_cell BK385.out 0).trans rfl, (blk_cell BK385.out 1).trans rfl, (blk_cell BK385.out 2).trans rfl, (blk_cell BK385.out 3).trans rfl, (blk_cell BK385.out 4).trans rfl, (blk_cell BK385.out 5).trans rfl, (blk_cell BK375.out 0).trans rfl, (blk_cell BK375.out 1).trans rfl, (blk_cell BK375.out 2).trans rfl, (blk_cell BK375.out 3).trans rfl, (blk_cell BK375.out 4).trans rfl, (blk_cell BK375.out 5).trans rfl⟩ (fun hHeld => ?_)
              clear hK K
              refine norm_ (a' := ?_) ?_ ?_
              rotate_left
              ·show Act.put _ (some 70) _ = _
               simp only [Act.put, List.setIfInBounds_toArray, List.set_cons_zero, List.set_cons_succ, i64_w, i32_w]
               rfl
              refine one_ (i := 4) (N := some 71) #[true, true, true, true, true, true, false] rfl rfl (by kernel_rfl) (by decide) (fun K hK => ?_)
              refine goes_ Tryd.func13 (by kernel_rfl) rfl #[.agg #[.int .u64 t379, .int .u64 t380, .int .u64 t381, .int .i64 t382, .int .i64 t383, .bool true], .agg #[.int .u64 t422, .int .u64 t423, .int .u64 t424, .int .i64 t425, .int .i64 t426, .bool t427]] (by rfl) rfl rfl (by (try simp only [List.map_toArray, List.map_cons, List.map_nil]); first | done | rfl | (simp only [List.length_drop, List.length_take]; rfl)) ?_
              with_reducible refine (cap_Unseal.calls t379 t380 t381 t382 t383 true t422 t423 t424 t425 t426 t427 t428 t429 t430 t431 t432 t433 _ A30.out).mono ?_
              rintro e w698 ⟨rfl, hb⟩
              refine ⟨_, rfl, ?_⟩
              have n0_ := Aside0.mk (blk_below (g := gb374) (o := .cells #[.int .u64 a0_0, .int .u64 a0_1, .int .u64 a0_2, .int .i64 a0_3, .int .i64 a0_4, .bool a0_5] 24 (0, 0)) (by (with_reducible repeat (first | refine blk_drewN ?_ _ | refine blk_drew ?_ | refine blk_alloc ?_ _)); exact BK374.out) hb)
              have n1_ := Aside0.mk (blk_below (g := gb375) (o := .cells #[.int .u64 a1_0, .int .u64 a1_1, .int .u64 a1_2, .int .i64 a1_3, .int .i64 a1_4, .bool a1_5] 24 (0, 0)) (by (with_reducible repeat (first | refine blk_drewN ?_ _ | refine blk_drew ?_ | refine blk_alloc ?_ _)); exact BK375.out) hb)
              have n2_ := Aside0.mk (blk_below (g := gb385) (o := .cells #[.int .u64 t379, .int .u64 t380, .int .u64 t381, .int .i64 t382, .int .i64 t383, .bool true] 24 (0, 0)) (by (with_reducible repeat (first | refine blk_drewN ?_ _ | refine blk_drew ?_ | refine blk_alloc ?_ _)); exact BK385.out) hb)
              have n3_ := Aside0.mk (blk_below (g := gb393) (o := .cells #[.int .u64 t387, .int .u64 t388, .int .u64 t389, .int .i64 t390, .int .i64 t391, .bool false] 24 (0, 0)) (by (with_reducible repeat (first | refine blk_drewN ?_ _ | refine blk_drew ?_ | refine blk_alloc ?_ _)); exact BK393.out) hb)
              have n4_ := Aside0.mk (blk_below (g := gb400) (o := .cells #[.int .u64 t394, .int .u64 t395, .int .u64 t396, .int .i64 t397, .int .i64 t398, .bool false] 24 (0, 0)) (by (with_reducible repeat (first | refine blk_drewN ?_ _ | refine blk_drew ?_ | refine blk_alloc ?_ _)); exact BK400.out) hb)
              have n5_ := Aside0.mk (blk_below (g := gb407) (o := .cells #[.int .u64 t401, .int .u64 t402, .int .u64 t403, .int .i64 t404, .int .i64 t405, .bool false] 24 (0, 0)) (by (with_reducible repeat (first | refine blk_drewN ?_ _ | refine blk_drew ?_ | refine blk_alloc ?_ _)); exact BK407.out) hb)
              have n6_ := Aside0.mk (blk_below (g := gb414) (o := .cells #[.int .u64 t408, .int .u64 t409, .int .u64 t410, .int .i64 t411, .int .i64 t412, .bool false] 24 (0, 0)) (by (with_reducible repeat (first | refine blk_drewN ?_ _ | refine blk_drew ?_ | refine blk_alloc ?_ _)); exact BK414.out) hb)
              have n7_ := Aside0.mk (blk_below (g := gb421) (o := .cells #[.int .u64 t415, .int .u64 t416, .int .u64 t417, .int .i64 t418, .int .i64 t419, .bool t420] 24 (0, 0)) (by (with_reducible repeat (first | refine blk_drewN ?_ _ | refine blk_drew ?_ | refine blk_alloc ?_ _)); exact BK421.out) hb)
              have n8_ := Aside0.mk (blk_below (g := gb434) (o := .cells #[.int .u64 0, .int .u64 0, .int .u64 0, .int .i64 0, .int .i64 0, .bool false] 24 (0, 0)) (by (with_reducible repeat (first | refine blk_drewN ?_ _ | refine blk_drew ?_ | refine blk_alloc ?_ _)); exact BK434.out) hb)
              have n9_ := Aside0.mk (below_step (by repeat (first | (with_reducible first | exact HB.out | apply below_alloc | apply pw_below_drewN | apply below_drew1 | refine below_set ?_ GE374.out | refine below_set ?_ GE375.out | refine below_set ?_ GE385.out | refine below_set ?_ GE393.out | refine below_set ?_ GE400.out | refine below_set ?_ GE407.out | refine below_set ?_ GE414.out | refine below_set ?_ GE421.out | refine below_set ?_ GE434.out) | exact HB.out)) hb)
              clear BK374
              clear BK375
              clear BK385
              clear BK393
              clear BK400
              clear BK407
              clear BK414
              clear BK421
              clear BK434
              clear HB
              have BK374 := n0_
              have BK375 := n1_
              have BK385 := n2_
              have BK393 := n3_
              have BK400 := n4_
              have BK407 := n5_
              have BK414 := n6_
              have BK421 := n7_
              have BK434 := n8_
              have HB := n9_
              clear n0_ n1_ n2_ n3_ n4_ n5_ n6_ n7_ n8_ n9_
              (try clear hb)
              (try clear hb2)
              (try clear hk)
              (try clear hi)
              refine hK.out _ _ ⟨(blk_cell BK385.out 0).trans rfl, (blk_cell BK385.out 1).trans rfl, (blk_cell BK385.out 2).trans rfl, (blk_cell BK385.out 3).trans rfl, (blk_cell BK385.out 4).trans rfl, (blk_cell BK385.out 5).trans rfl, (blk_cell BK375.out 0).trans rfl, (blk_cell BK375.out 1).trans rfl, (blk_cell BK375.out 2).trans rfl, (blk_cell BK375.out 3).trans rfl, (blk_cell BK375.out 4).trans rfl, (blk_cell BK375.out 5).trans rfl⟩ (fun hHeld => ?_)
              clear hK K
              refine norm_ (a' := ?_) ?_ ?_
              rotate_left
              ·show Act.put _ (some 71) _ = _
               simp only [Act.put, List.setIfInBounds_toArray, List.set_cons_zero, List.set_cons_succ, i64_w, i32_w]
               rfl
              exact norm_ (by simp only [putAll, Act.put, List.setIfInBounds_toArray, List.set_cons_zero, List.set_cons_succ]) (hCont (gb434) _ ⟨hHeld, (by (with_reducible repeat (first | refine blk_drewN ?_ _ | refine blk_drew ?_ | refine blk_alloc ?_ _)); exact BK374.out), (by (with_reducible repeat (first | refine blk_drewN ?_ _ | refine blk_drew ?_ | refine blk_alloc ?_ _)); exact BK375.out), (by (with_reducible repeat (first | refine blk_drewN ?_ _ | refine blk_drew ?_ | refine blk_alloc ?_ _)); exact BK385.out), (by (with_reducible repeat (first | refine blk_drewN ?_ _ | refine blk_drew ?_ | refine blk_alloc ?_ _)); exact BK393.out), (by (with_reducible repeat (first | refine blk_drewN ?_ _ | refine blk_drew ?_ | refine blk_alloc ?_ _)); exact BK400.out), (by (with_reducible repeat (first | refine blk_drewN ?_ _ | refine blk_drew ?_ | refine blk_alloc ?_ _)); exact BK407.out), (by (with_reducible repeat (first | refine blk_drewN ?_ _ | refine blk_drew ?_ | refine blk_alloc ?_ _)); exact BK414.out), (by (with_reducible repeat (first | refine blk_drewN ?_ _ | refine blk_drew ?_ | refine blk_alloc ?_ _)); exact BK421.out), (by (with_reducible repeat (first | refine blk_drewN ?_ _ | refine blk_drew ?_ | refine blk_alloc ?_ _)); exact BK434.out), GW434.out, GE434.out, NB374_434.out, NB434_374.out, NB375_434.out, NB434_375.out, NB385_434.out, NB434_385.out, NB393_434.out, NB434_393.out, NB400_434.out, NB434_400.out, NB407_434.out, NB434_407.out, NB414_434.out, NB434_414.out, NB421_434.out, NB434_421.out, (by repeat (first | (with_reducible first | exact HB.out | apply below_alloc | apply pw_below_drewN | apply below_drew1 | refine below_set ?_ GE374.out | refine below_set ?_ GE375.out | refine below_set ?_ GE385.out | refine below_set ?_ GE393.out | refine below_set ?_ GE400.out | refine below_set ?_ GE407.out | refine below_set ?_ GE414.out | refine below_set ?_ GE421.out | refine below_set ?_ GE434.out) | exact HB.out))⟩)
            rintro gb434 w699 ⟨hS_, h0_, h1_, h2_, h3_, h4_, h5_, h6_, h7_, h8_, h9_, h10_, h11_, h12_, h13_, h14_, h15_, h16_, h17_, h18_, h19_, h20_, h21_, h22_, h23_, h24_, h25_, h26_, h27_⟩
            have n0_ : Aside0 (w699.heap[gb374]? = some (.cells #[.int .u64 a0_0, .int .u64 a0_1, .int .u64 a0_2, .int .i64 a0_3, .int .i64 a0_4, .bool a0_5] 24 (0, 0))) := ⟨h0_⟩
            have n1_ : Aside0 (w699.heap[gb375]? = some (.cells #[.int .u64 a1_0, .int .u64 a1_1, .int .u64 a1_2, .int .i64 a1_3, .int .i64 a1_4, .bool a1_5] 24 (0, 0))) := ⟨h1_⟩
            have n2_ : Aside0 (w699.heap[gb385]? = some (.cells #[.int .u64 t379, .int .u64 t380, .int .u64 t381, .int .i64 t382, .int .i64 t383, .bool true] 24 (0, 0))) := ⟨h2_⟩
            have n3_ : Aside0 (w699.heap[gb393]? = some (.cells #[.int .u64 t387, .int .u64 t388, .int .u64 t389, .int .i64 t390, .int .i64 t391, .bool false] 24 (0, 0))) := ⟨h3_⟩
            have n4_ : Aside0 (w699.heap[gb400]? = some (.cells #[.int .u64 t394, .int .u64 t395, .int .u64 t396, .int .i64 t397, .int .i64 t398, .bool false] 24 (0, 0))) := ⟨h4_⟩
            have n5_ : Aside0 (w699.heap[gb407]? = some (.cells #[.int .u64 t401, .int .u64 t402, .int .u64 t403, .int .i64 t404, .int .i64 t405, .bool false] 24 (0, 0))) := ⟨h5_⟩
            have n6_ : Aside0 (w699.heap[gb414]? = some (.cells #[.int .u64 t408, .int .u64 t409, .int .u64 t410, .int .i64 t411, .int .i64 t412, .bool false] 24 (0, 0))) := ⟨h6_⟩
            have n7_ : Aside0 (w699.heap[gb421]? = some (.cells #[.int .u64 t415, .int .u64 t416, .int .u64 t417, .int .i64 t418, .int .i64 t419, .bool t420] 24 (0, 0))) := ⟨h7_⟩
            have n8_ : Aside0 (w699.heap[gb434]? = some (.cells #[.int .u64 0, .int .u64 0, .int .u64 0, .int .i64 0, .int .i64 0, .bool false] 24 (0, 0))) := ⟨h8_⟩
            have n9_ : Aside0 (w.heap.size ≤ gb434) := ⟨h9_⟩
            have n10_ : Aside0 (w.heap.size ≤ gb434) := ⟨h10_⟩
            have n11_ : Aside0 (gb374 ≠ gb434) := ⟨h11_⟩
            have n12_ : Aside0 (gb434 ≠ gb374) := ⟨h12_⟩
            have n13_ : Aside0 (gb375 ≠ gb434) := ⟨h13_⟩
            have n14_ : Aside0 (gb434 ≠ gb375) := ⟨h14_⟩
            have n15_ : Aside0 (gb385 ≠ gb434) := ⟨h15_⟩
            have n16_ : Aside0 (gb434 ≠ gb385) := ⟨h16_⟩
            have n17_ : Aside0 (gb393 ≠ gb434) := ⟨h17_⟩
            have n18_ : Aside0 (gb434 ≠ gb393) := ⟨h18_⟩
            have n19_ : Aside0 (gb400 ≠ gb434) := ⟨h19_⟩
            have n20_ : Aside0 (gb434 ≠ gb400) := ⟨h20_⟩
            have n21_ : Aside0 (gb407 ≠ gb434) := ⟨h21_⟩
            have n22_ : Aside0 (gb434 ≠ gb407) := ⟨h22_⟩
            have n23_ : Aside0 (gb414 ≠ gb434) := ⟨h23_⟩
            have n24_ : Aside0 (gb434 ≠ gb414) := ⟨h24_⟩
            have n25_ : Aside0 (gb421 ≠ gb434) := ⟨h25_⟩
            have n26_ : Aside0 (gb434 ≠ gb421) := ⟨h26_⟩
            have n27_ : Aside0 (Below w.heap.size w w699) := ⟨h27_⟩
            clear BK374
            clear BK375
            clear BK385
            clear BK393
            clear BK400
            clear BK407
            clear BK414
            clear BK421
            clear HB
            clear h0_ h1_ h2_ h3_ h4_ h5_ h6_ h7_ h8_ h9_ h10_ h11_ h12_ h13_ h14_ h15_ h16_ h17_ h18_ h19_ h20_ h21_ h22_ h23_ h24_ h25_ h26_ h27_
            have BK374 := n0_
            have BK375 := n1_
            have BK385 := n2_
            have BK393 := n3_
            have BK400 := n4_
            have BK407 := n5_
            have BK414 := n6_
            have BK421 := n7_
            have BK434 := n8_
            have GW434 := n9_
            have GE434 := n10_
            have NB374_434 := n11_
            have NB434_374 := n12_
            have NB375_434 := n13_
            have NB434_375 := n14_
            have NB385_434 := n15_
            have NB434_385 := n16_
            have NB393_434 := n17_
            have NB434_393 := n18_
            have NB400_434 := n19_
            have NB434_400 := n20_
            have NB407_434 := n21_
            have NB434_407 := n22_
            have NB414_434 := n23_
            have NB434_414 := n24_
            have NB421_434 := n25_
            have NB434_421 := n26_
            have HB := n27_
            clear n0_ n1_ n2_ n3_ n4_ n5_ n6_ n7_ n8_ n9_ n10_ n11_ n12_ n13_ n14_ n15_ n16_ n17_ n18_ n19_ n20_ n21_ n22_ n23_ n24_ n25_ n26_ n27_
            have hHeld : w699.cell? ⟨gb385, 0, none⟩ = some (.int .u64 t379) ∧ w699.cell? ⟨gb385, 1, none⟩ = some (.int .u64 t380) ∧ w699.cell? ⟨gb385, 2, none⟩ = some (.int .u64 t381) ∧ w699.cell? ⟨gb385, 3, none⟩ = some (.int .i64 t382) ∧ w699.cell? ⟨gb385, 4, none⟩ = some (.int .i64 t383) ∧ w699.cell? ⟨gb385, 5, none⟩ = some (.bool true) ∧ w699.cell? ⟨gb375, 0, none⟩ = some (.int .u64 a1_0) ∧ w699.cell? ⟨gb375, 1, none⟩ = some (.int .u64 a1_1) ∧ w699.cell? ⟨gb375, 2, none⟩ = some (.int .u64 a1_2) ∧ w699.cell? ⟨gb375, 3, none⟩ = some (.int .i64 a1_3) ∧ w699.cell? ⟨gb375, 4, none⟩ = some (.int .i64 a1_4) ∧ w699.cell? ⟨gb375, 5, none⟩ = some (.bool a1_5) := hS_
            refine norm_ (a' := ?_) ?_ ?_
            rotate_left
            ·simp only [putAll, Act.put, List.setIfInBounds_toArray, List.set_cons_zero, List.set_cons_succ]
             rfl
            refine one_ (i := 6) (N := none) #[true, true, true, true, true, true, true] rfl rfl (by kernel_rfl) (by decide) (fun K hK => ?_)
            have hs700 : w699.cell? ⟨gb434, 0, none⟩ = some (.int .u64 0) := (blk_cell BK434.out 0).trans rfl
            have hfs700 := blk_frozen BK434.out 0
            have hns700_0 := NB374_434.out
            have hns700_1 := NB375_434.out
            have hns700_2 := NB385_434.out
            have hns700_3 := NB393_434.out
            have hns700_4 := NB400_434.out
            have hns700_5 := NB407_434.out
            have hns700_6 := NB414_434.out
            have hns700_7 := NB421_434.out
            have hms700_0 := NB434_374.out
            have hms700_1 := NB434_375.out
            have hms700_2 := NB434_385.out
            have hms700_3 := NB434_393.out
            have hms700_4 := NB434_400.out
            have hms700_5 := NB434_407.out
            have hms700_6 := NB434_414.out
            have hms700_7 := NB434_421.out
            have hs701 : w699.cell? ⟨gb434, 1, none⟩ = some (.int .u64 0) := (blk_cell BK434.out 1).trans rfl
            have hfs701 := blk_frozen BK434.out 1
            have hns701_0 := NB374_434.out
            have hns701_1 := NB375_434.out
            have hns701_2 := NB385_434.out
            have hns701_3 := NB393_434.out
            have hns701_4 := NB400_434.out
            have hns701_5 := NB407_434.out
            have hns701_6 := NB414_434.out
            have hns701_7 := NB421_434.out
            have hms701_0 := NB434_374.out
            have hms701_1 := NB434_375.out
            have hms701_2 := NB434_385.out
            have hms701_3 := NB434_393.out
            have hms701_4 := NB434_400.out
            have hms701_5 := NB434_407.out
            have hms701_6 := NB434_414.out
            have hms701_7 := NB434_421.out
            have hs702 : w699.cell? ⟨gb434, 2, none⟩ = some (.int .u64 0) := (blk_cell BK434.out 2).trans rfl
            have hfs702 := blk_frozen BK434.out 2
            have hns702_0 := NB374_434.out
            have hns702_1 := NB375_434.out
            have hns702_2 := NB385_434.out
            have hns702_3 := NB393_434.out
            have hns702_4 := NB400_434.out
            have hns702_5 := NB407_434.out
            have hns702_6 := NB414_434.out
            have hns702_7 := NB421_434.out
            have hms702_0 := NB434_374.out
            have hms702_1 := NB434_375.out
            have hms702_2 := NB434_385.out
            have hms702_3 := NB434_393.out
            have hms702_4 := NB434_400.out
            have hms702_5 := NB434_407.out
            have hms702_6 := NB434_414.out
            have hms702_7 := NB434_421.out
            have hs703 : w699.cell? ⟨gb434, 3, none⟩ = some (.int .i64 0) := (blk_cell BK434.out 3).trans rfl
            have hfs703 := blk_frozen BK434.out 3
            have hns703_0 := NB374_434.out
            have hns703_1 := NB375_434.out
            have hns703_2 := NB385_434.out
            have hns703_3 := NB393_434.out
            have hns703_4 := NB400_434.out
            have hns703_5 := NB407_434.out
            have hns703_6 := NB414_434.out
            have hns703_7 := NB421_434.out
            have hms703_0 := NB434_374.out
            have hms703_1 := NB434_375.out
            have hms703_2 := NB434_385.out
            have hms703_3 := NB434_393.out
            have hms703_4 := NB434_400.out
            have hms703_5 := NB434_407.out
            have hms703_6 := NB434_414.out
            have hms703_7 := NB434_421.out
            have hs704 : w699.cell? ⟨gb434, 4, none⟩ = some (.int .i64 0) := (blk_cell BK434.out 4).trans rfl
            have hfs704 := blk_frozen BK434.out 4
            have hns704_0 := NB374_434.out
            have hns704_1 := NB375_434.out
            have hns704_2 := NB385_434.out
            have hns704_3 := NB393_434.out
            have hns704_4 := NB400_434.out
            have hns704_5 := NB407_434.out
            have hns704_6 := NB414_434.out
            have hns704_7 := NB421_434.out
            have hms704_0 := NB434_374.out
            have hms704_1 := NB434_375.out
            have hms704_2 := NB434_385.out
            have hms704_3 := NB434_393.out
            have hms704_4 := NB434_400.out
            have hms704_5 := NB434_407.out
            have hms704_6 := NB434_414.out
            have hms704_7 := NB434_421.out
            have hs705 : w699.cell? ⟨gb434, 5, none⟩ = some (.bool false) := (blk_cell BK434.out 5).trans rfl
            have hfs705 := blk_frozen BK434.out 5
            have hns705_0 := NB374_434.out
            have hns705_1 := NB375_434.out
            have hns705_2 := NB385_434.out
            have hns705_3 := NB393_434.out
            have hns705_4 := NB400_434.out
            have hns705_5 := NB407_434.out
            have hns705_6 := NB414_434.out
            have hns705_7 := NB421_434.out
            have hms705_0 := NB434_374.out
            have hms705_1 := NB434_375.out
            have hms705_2 := NB434_385.out
            have hms705_3 := NB434_393.out
            have hms705_4 := NB434_400.out
            have hms705_5 := NB434_407.out
            have hms705_6 := NB434_414.out
            have hms705_7 := NB434_421.out
            refine skip_ (w1 := ?_) (by rfl) rfl ?_ ?_
            rotate_left
            ·go_simp
             rfl
            refine hK.out _ _ ⟨((cell_far (p := ⟨gb434, _, none⟩) NB385_434.out _).trans (((cell_far (p := ⟨gb434, _, none⟩) NB385_434.out _).trans (((cell_far (p := ⟨gb434, _, none⟩) NB385_434.out _).trans (((cell_far (p := ⟨gb434, _, none⟩) NB385_434.out _).trans (((cell_far (p := ⟨gb434, _, none⟩) NB385_434.out _).trans (((cell_far (p := ⟨gb434, _, none⟩) NB385_434.out _).trans (hHeld.1)))))))))))), ((cell_far (p := ⟨gb434, _, none⟩) NB385_434.out _).trans (((cell_far (p := ⟨gb434, _, none⟩) NB385_434.out _).trans (((cell_far (p := ⟨gb434, _, none⟩) NB385_434.out _).trans (((cell_far (p := ⟨gb434, _, none⟩) NB385_434.out _).trans (((cell_far (p := ⟨gb434, _, none⟩) NB385_434.out _).trans (((cell_far (p := ⟨gb434, _, none⟩) NB385_434.out _).trans (hHeld.2.1)))))))))))), ((cell_far (p := ⟨gb434, _, none⟩) NB385_434.out _).trans (((cell_far (p := ⟨gb434, _, none⟩) NB385_434.out _).trans (((cell_far (p := ⟨gb434, _, none⟩) NB385_434.out _).trans (((cell_far (p := ⟨gb434, _, none⟩) NB385_434.out _).trans (((cell_far (p := ⟨gb434, _, none⟩) NB385_434.out _).trans (((cell_far (p := ⟨gb434, _, none⟩) NB385_434.out _).trans (hHeld.2.2.1)))))))))))), ((cell_far (p := ⟨gb434, _, none⟩) NB385_434.out _).trans (((cell_far (p := ⟨gb434, _, none⟩) NB385_434.out _).trans (((cell_far (p := ⟨gb434, _, none⟩) NB385_434.out _).trans (((cell_far (p := ⟨gb434, _, none⟩) NB385_434.out _).trans (((cell_far (p := ⟨gb434, _, none⟩) NB385_434.out _).trans (((cell_far (p := ⟨gb434, _, none⟩) NB385_434.out _).trans (hHeld.2.2.2.1)))))))))))), ((cell_far (p := ⟨gb434, _, none⟩) NB385_434.out _).trans (((cell_far (p := ⟨gb434, _, none⟩) NB385_434.out _).trans (((cell_far (p := ⟨gb434, _, none⟩) NB385_434.out _).trans (((cell_far (p := ⟨gb434, _, none⟩) NB385_434.out _).trans (((cell_far (p := ⟨gb434, _, none⟩) NB385_434.out _).trans (((cell_far (p := ⟨gb434, _, none⟩) NB385_434.out _).trans (hHeld.2.2.2.2.1)))))))))))), ((cell_far (p := ⟨gb434, _, none⟩) NB385_434.out _).trans (((cell_far (p := ⟨gb434, _, none⟩) NB385_434.out _).trans (((cell_far (p := ⟨gb434, _, none⟩) NB385_434.out _).trans (((cell_far (p := ⟨gb434, _, none⟩) NB385_434.out _).trans (((cell_far (p := ⟨gb434, _, none⟩) NB385_434.out _).trans (((cell_far (p := ⟨gb434, _, none⟩) NB385_434.out _).trans (hHeld.2.2.2.2.2.1)))))))))))), ((cell_far (p := ⟨gb434, _, none⟩) NB375_434.out _).trans (((cell_far (p := ⟨gb434, _, none⟩) NB375_434.out _).trans (((cell_far (p := ⟨gb434, _, none⟩) NB375_434.out _).trans (((cell_far (p := ⟨gb434, _, none⟩) NB375_434.out _).trans (((cell_far (p := ⟨gb434, _, none⟩) NB375_434.out _).trans (((cell_far (p := ⟨gb434, _, none⟩) NB375_434.out _).trans (hHeld.2.2.2.2.2.2.1)))))))))))), ((cell_far (p := ⟨gb434, _, none⟩) NB375_434.out _).trans (((cell_far (p := ⟨gb434, _, none⟩) NB375_434.out _).trans (((cell_far (p := ⟨gb434, _, none⟩) NB375_434.out _).trans (((cell_far (p := ⟨gb434, _, none⟩) NB375_434.out _).trans (((cell_far (p := ⟨gb434, _, none⟩) NB375_434.out _).trans (((cell_far (p := ⟨gb434, _, none⟩) NB375_434.out _).trans (hHeld.2.2.2.2.2.2.2.1)))))))))))), ((cell_far (p := ⟨gb434, _, none⟩) NB375_434.out _).trans (((cell_far (p := ⟨gb434, _, none⟩) NB375_434.out _).trans (((cell_far (p := ⟨gb434, _, none⟩) NB375_434.out _).trans (((cell_far (p := ⟨gb434, _, none⟩) NB375_434.out _).trans (((cell_far (p := ⟨gb434, _, none⟩) NB375_434.out _).trans (((cell_far (p := ⟨gb434, _, none⟩) NB375_434.out _).trans (hHeld.2.2.2.2.2.2.2.2.1)))))))))))), ((cell_far (p := ⟨gb434, _, none⟩) NB375_434.out _).trans (((cell_far (p := ⟨gb434, _, none⟩) NB375_434.out _).trans (((cell_far (p := ⟨gb434, _, none⟩) NB375_434.out _).trans (((cell_far (p := ⟨gb434, _, none⟩) NB375_434.out _).trans (((cell_far (p := ⟨gb434, _, none⟩) NB375_434.out _).trans (((cell_far (p := ⟨gb434, _, none⟩) NB375_434.out _).trans (hHeld.2.2.2.2.2.2.2.2.2.1)))))))))))), ((cell_far (p := ⟨gb434, _, none⟩) NB375_434.out _).trans (((cell_far (p := ⟨gb434, _, none⟩) NB375_434.out _).trans (((cell_far (p := ⟨gb434, _, none⟩) NB375_434.out _).trans (((cell_far (p := ⟨gb434, _, none⟩) NB375_434.out _).trans (((cell_far (p := ⟨gb434, _, none⟩) NB375_434.out _).trans (((cell_far (p := ⟨gb434, _, none⟩) NB375_434.out _).trans (hHeld.2.2.2.2.2.2.2.2.2.2.1)))))))))))), ((cell_far (p := ⟨gb434, _, none⟩) NB375_434.out _).trans (((cell_far (p := ⟨gb434, _, none⟩) NB375_434.out _).trans (((cell_far (p := ⟨gb434, _, none⟩) NB375_434.out _).trans (((cell_far (p := ⟨gb434, _, none⟩) NB375_434.out _).trans (((cell_far (p := ⟨gb434, _, none⟩) NB375_434.out _).trans (((cell_far (p := ⟨gb434, _, none⟩) NB375_434.out _).trans (hHeld.2.2.2.2.2.2.2.2.2.2.2))))))))))))⟩ (fun hHeld => ?_)
            clear hK K
            refine done_ (by kernel_rfl) ?_
            have hnb706 := NB375_434.out
            have hnc706 := NB434_375.out
            have hcz707_0 : w699.cell? ⟨gb375, 0, none⟩ = some (.int .u64 a1_0) := (blk_cell BK375.out 0).trans rfl
            have hcz707_1 : w699.cell? ⟨gb375, 1, none⟩ = some (.int .u64 a1_1) := (blk_cell BK375.out 1).trans rfl
            have hcz707_2 : w699.cell? ⟨gb375, 2, none⟩ = some (.int .u64 a1_2) := (blk_cell BK375.out 2).trans rfl
            have hcz707_3 : w699.cell? ⟨gb375, 3, none⟩ = some (.int .i64 a1_3) := (blk_cell BK375.out 3).trans rfl
            have hcz707_4 : w699.cell? ⟨gb375, 4, none⟩ = some (.int .i64 a1_4) := (blk_cell BK375.out 4).trans rfl
            have hcz707_5 : w699.cell? ⟨gb375, 5, none⟩ = some (.bool a1_5) := (blk_cell BK375.out 5).trans rfl
            have hfz707_0 := blk_frozen BK375.out 0
            have hfz707_1 := blk_frozen BK375.out 1
            have hfz707_2 := blk_frozen BK375.out 2
            have hfz707_3 := blk_frozen BK375.out 3
            have hfz707_4 := blk_frozen BK375.out 4
            have hfz707_5 := blk_frozen BK375.out 5
            have hnb708 := NB393_434.out
            have hnc708 := NB434_393.out
            have hcz709_0 : w699.cell? ⟨gb393, 0, none⟩ = some (.int .u64 t387) := (blk_cell BK393.out 0).trans rfl
            have hcz709_1 : w699.cell? ⟨gb393, 1, none⟩ = some (.int .u64 t388) := (blk_cell BK393.out 1).trans rfl
            have hcz709_2 : w699.cell? ⟨gb393, 2, none⟩ = some (.int .u64 t389) := (blk_cell BK393.out 2).trans rfl
            have hcz709_3 : w699.cell? ⟨gb393, 3, none⟩ = some (.int .i64 t390) := (blk_cell BK393.out 3).trans rfl
            have hcz709_4 : w699.cell? ⟨gb393, 4, none⟩ = some (.int .i64 t391) := (blk_cell BK393.out 4).trans rfl
            have hcz709_5 : w699.cell? ⟨gb393, 5, none⟩ = some (.bool false) := (blk_cell BK393.out 5).trans rfl
            have hfz709_0 := blk_frozen BK393.out 0
            have hfz709_1 := blk_frozen BK393.out 1
            have hfz709_2 := blk_frozen BK393.out 2
            have hfz709_3 := blk_frozen BK393.out 3
            have hfz709_4 := blk_frozen BK393.out 4
            have hfz709_5 := blk_frozen BK393.out 5
            have hnb710 := NB400_434.out
            have hnc710 := NB434_400.out
            have hcz711_0 : w699.cell? ⟨gb400, 0, none⟩ = some (.int .u64 t394) := (blk_cell BK400.out 0).trans rfl
            have hcz711_1 : w699.cell? ⟨gb400, 1, none⟩ = some (.int .u64 t395) := (blk_cell BK400.out 1).trans rfl
            have hcz711_2 : w699.cell? ⟨gb400, 2, none⟩ = some (.int .u64 t396) := (blk_cell BK400.out 2).trans rfl
            have hcz711_3 : w699.cell? ⟨gb400, 3, none⟩ = some (.int .i64 t397) := (blk_cell BK400.out 3).trans rfl
            have hcz711_4 : w699.cell? ⟨gb400, 4, none⟩ = some (.int .i64 t398) := (blk_cell BK400.out 4).trans rfl
            have hcz711_5 : w699.cell? ⟨gb400, 5, none⟩ = some (.bool false) := (blk_cell BK400.out 5).trans rfl
            have hfz711_0 := blk_frozen BK400.out 0
            have hfz711_1 := blk_frozen BK400.out 1
            have hfz711_2 := blk_frozen BK400.out 2
            have hfz711_3 := blk_frozen BK400.out 3
            have hfz711_4 := blk_frozen BK400.out 4
            have hfz711_5 := blk_frozen BK400.out 5
            have hnb712 := NB407_434.out
            have hnc712 := NB434_407.out
            have hcz713_0 : w699.cell? ⟨gb407, 0, none⟩ = some (.int .u64 t401) := (blk_cell BK407.out 0).trans rfl
            have hcz713_1 : w699.cell? ⟨gb407, 1, none⟩ = some (.int .u64 t402) := (blk_cell BK407.out 1).trans rfl
            have hcz713_2 : w699.cell? ⟨gb407, 2, none⟩ = some (.int .u64 t403) := (blk_cell BK407.out 2).trans rfl
            have hcz713_3 : w699.cell? ⟨gb407, 3, none⟩ = some (.int .i64 t404) := (blk_cell BK407.out 3).trans rfl
            have hcz713_4 : w699.cell? ⟨gb407, 4, none⟩ = some (.int .i64 t405) := (blk_cell BK407.out 4).trans rfl
            have hcz713_5 : w699.cell? ⟨gb407, 5, none⟩ = some (.bool false) := (blk_cell BK407.out 5).trans rfl
            have hfz713_0 := blk_frozen BK407.out 0
            have hfz713_1 := blk_frozen BK407.out 1
            have hfz713_2 := blk_frozen BK407.out 2
            have hfz713_3 := blk_frozen BK407.out 3
            have hfz713_4 := blk_frozen BK407.out 4
            have hfz713_5 := blk_frozen BK407.out 5
            have hnb714 := NB414_434.out
            have hnc714 := NB434_414.out
            have hcz715_0 : w699.cell? ⟨gb414, 0, none⟩ = some (.int .u64 t408) := (blk_cell BK414.out 0).trans rfl
            have hcz715_1 : w699.cell? ⟨gb414, 1, none⟩ = some (.int .u64 t409) := (blk_cell BK414.out 1).trans rfl
            have hcz715_2 : w699.cell? ⟨gb414, 2, none⟩ = some (.int .u64 t410) := (blk_cell BK414.out 2).trans rfl
            have hcz715_3 : w699.cell? ⟨gb414, 3, none⟩ = some (.int .i64 t411) := (blk_cell BK414.out 3).trans rfl
            have hcz715_4 : w699.cell? ⟨gb414, 4, none⟩ = some (.int .i64 t412) := (blk_cell BK414.out 4).trans rfl
            have hcz715_5 : w699.cell? ⟨gb414, 5, none⟩ = some (.bool false) := (blk_cell BK414.out 5).trans rfl
            have hfz715_0 := blk_frozen BK414.out 0
            have hfz715_1 := blk_frozen BK414.out 1
            have hfz715_2 := blk_frozen BK414.out 2
            have hfz715_3 := blk_frozen BK414.out 3
            have hfz715_4 := blk_frozen BK414.out 4
            have hfz715_5 := blk_frozen BK414.out 5
            have hnb716 := NB421_434.out
            have hnc716 := NB434_421.out
            have hcz717_0 : w699.cell? ⟨gb421, 0, none⟩ = some (.int .u64 t415) := (blk_cell BK421.out 0).trans rfl
            have hcz717_1 : w699.cell? ⟨gb421, 1, none⟩ = some (.int .u64 t416) := (blk_cell BK421.out 1).trans rfl
            have hcz717_2 : w699.cell? ⟨gb421, 2, none⟩ = some (.int .u64 t417) := (blk_cell BK421.out 2).trans rfl
            have hcz717_3 : w699.cell? ⟨gb421, 3, none⟩ = some (.int .i64 t418) := (blk_cell BK421.out 3).trans rfl
            have hcz717_4 : w699.cell? ⟨gb421, 4, none⟩ = some (.int .i64 t419) := (blk_cell BK421.out 4).trans rfl
            have hcz717_5 : w699.cell? ⟨gb421, 5, none⟩ = some (.bool t420) := (blk_cell BK421.out 5).trans rfl
            have hfz717_0 := blk_frozen BK421.out 0
            have hfz717_1 := blk_frozen BK421.out 1
            have hfz717_2 := blk_frozen BK421.out 2
            have hfz717_3 := blk_frozen BK421.out 3
            have hfz717_4 := blk_frozen BK421.out 4
            have hfz717_5 := blk_frozen BK421.out 5
            have hnb718 := NB374_434.out
            have hnc718 := NB434_374.out
            have hcz719_0 : w699.cell? ⟨gb374, 0, none⟩ = some (.int .u64 a0_0) := (blk_cell BK374.out 0).trans rfl
            have hcz719_1 : w699.cell? ⟨gb374, 1, none⟩ = some (.int .u64 a0_1) := (blk_cell BK374.out 1).trans rfl
            have hcz719_2 : w699.cell? ⟨gb374, 2, none⟩ = some (.int .u64 a0_2) := (blk_cell BK374.out 2).trans rfl
            have hcz719_3 : w699.cell? ⟨gb374, 3, none⟩ = some (.int .i64 a0_3) := (blk_cell BK374.out 3).trans rfl
            have hcz719_4 : w699.cell? ⟨gb374, 4, none⟩ = some (.int .i64 a0_4) := (blk_cell BK374.out 4).trans rfl
            have hcz719_5 : w699.cell? ⟨gb374, 5, none⟩ = some (.bool a0_5) := (blk_cell BK374.out 5).trans rfl
            have hfz719_0 := blk_frozen BK374.out 0
            have hfz719_1 := blk_frozen BK374.out 1
            have hfz719_2 := blk_frozen BK374.out 2
            have hfz719_3 := blk_frozen BK374.out 3
            have hfz719_4 := blk_frozen BK374.out 4
            have hfz719_5 := blk_frozen BK374.out 5
            have HX := HE.out
            clear HE
            by_cases c362 : (Go.bits .and .i64 a1_3 64) = 0
            · rw [if_pos c362] at HX
              have c362b0 : ((Go.bits .and .i64 a1_3 64) == 0) = true := beq_iff_eq.mpr c362
              have c362b1 : ((Go.bits .and .i64 a1_3 64) != 0) = false := bne_eq_false_iff_eq.mpr c362
              clear c362
              cases t420 with
              | true => rw [if_pos rfl] at HX; exact absurd (Option.some.inj HX) (by decide)
              | false =>
                rw [if_neg Bool.false_ne_true] at HX
                by_cases c452 : a2 = a1_2
                · have c452b0 : (a2 == a1_2) = true := beq_iff_eq.mpr c452
                  have c452b1 : (a2 != a1_2) = false := bne_eq_false_iff_eq.mpr c452
                  clear c452 HX
                  try go_wp2
                  all_goals go_ret
                  all_goals exact ⟨by first | rfl | (simp [errW_none, errW_some] <;> rfl) | (simp [*, errW_none, errW_some] <;> rfl) | (exfalso; revert c361b0; clear c361b1 c361b2; simp [*]), by repeat (first | (with_reducible first | exact HB.out | apply below_alloc | apply pw_below_drewN | apply below_drew1 | refine below_set ?_ GE374.out | refine below_set ?_ GE375.out | refine below_set ?_ GE385.out | refine below_set ?_ GE393.out | refine below_set ?_ GE400.out | refine below_set ?_ GE407.out | refine below_set ?_ GE414.out | refine below_set ?_ GE421.out | refine below_set ?_ GE434.out) | exact HB.out)⟩
                · rw [if_neg c452] at HX
                  have c452b0 : (a2 == a1_2) = false := beq_eq_false_iff_ne.mpr c452
                  have c452b1 : (a2 != a1_2) = true := bne_iff_ne.mpr c452
                  clear c452
                  cases t433 with
                  | true => exact absurd (Option.some.inj HX) (by decide)
                  | false =>
                    clear HX
                    try go_wp2
                    all_goals go_ret
                    all_goals exact ⟨by first | rfl | (simp [errW_none, errW_some] <;> rfl) | (simp [*, errW_none, errW_some] <;> rfl) | (exfalso; revert c361b0; clear c361b1 c361b2; simp [*]), by repeat (first | (with_reducible first | exact HB.out | apply below_alloc | apply pw_below_drewN | apply below_drew1 | refine below_set ?_ GE374.out | refine below_set ?_ GE375.out | refine below_set ?_ GE385.out | refine below_set ?_ GE393.out | refine below_set ?_ GE400.out | refine below_set ?_ GE407.out | refine below_set ?_ GE414.out | refine below_set ?_ GE421.out | refine below_set ?_ GE434.out) | exact HB.out)⟩
            · rw [if_neg c362] at HX
              have c362b0 : ((Go.bits .and .i64 a1_3 64) == 0) = false := beq_eq_false_iff_ne.mpr c362
              have c362b1 : ((Go.bits .and .i64 a1_3 64) != 0) = true := bne_iff_ne.mpr c362
              clear c362
              by_cases c452 : a2 = a1_2
              · have c452b0 : (a2 == a1_2) = true := beq_iff_eq.mpr c452
                have c452b1 : (a2 != a1_2) = false := bne_eq_false_iff_eq.mpr c452
                clear c452 HX
                try go_wp2
                all_goals go_ret
                all_goals exact ⟨by first | rfl | (simp [errW_none, errW_some] <;> rfl) | (simp [*, errW_none, errW_some] <;> rfl) | (exfalso; revert c361b0; clear c361b1 c361b2; simp [*]), by repeat (first | (with_reducible first | exact HB.out | apply below_alloc | apply pw_below_drewN | apply below_drew1 | refine below_set ?_ GE374.out | refine below_set ?_ GE375.out | refine below_set ?_ GE385.out | refine below_set ?_ GE393.out | refine below_set ?_ GE400.out | refine below_set ?_ GE407.out | refine below_set ?_ GE414.out | refine below_set ?_ GE421.out | refine below_set ?_ GE434.out) | exact HB.out)⟩
              · rw [if_neg c452] at HX
                have c452b0 : (a2 == a1_2) = false := beq_eq_false_iff_ne.mpr c452
                have c452b1 : (a2 != a1_2) = true := bne_iff_ne.mpr c452
                clear c452
                cases t433 with
                | true => exact absurd (Option.some.inj HX) (by decide)
                | false =>
                  clear HX
                  try go_wp2
                  all_goals go_ret
                  all_goals exact ⟨by first | rfl | (simp [errW_none, errW_some] <;> rfl) | (simp [*, errW_none, errW_some] <;> rfl) | (exfalso; revert c361b0; clear c361b1 c361b2; simp [*]), by repeat (first | (with_reducible first | exact HB.out | apply below_alloc | apply pw_below_drewN | apply below_drew1 | refine below_set ?_ GE374.out | refine below_set ?_ GE375.out | refine below_set ?_ GE385.out | refine below_set ?_ GE393.out | refine below_set ?_ GE400.out | refine below_set ?_ GE407.out | refine below_set ?_ GE414.out | refine below_set ?_ GE421.out | refine below_set ?_ GE434.out) | exact HB.out)⟩
           ·rw [if_neg c361] at H
            have c361b0 : ((t415 == a0_0 && (t416 == a0_1 && (t417 == a0_2 && (t418 == a0_3 && (t419 == a0_4 && (t420 == a0_5)))))) == ((Go.bits .and .i64 a1_3 64) != 0)) = false := by simpa using c361
            (try (have c361b1 : decide ((t415 == a0_0 && (t416 == a0_1 && (t417 == a0_2 && (t418 == a0_3 && (t419 == a0_4 && (t420 == a0_5)))))) = ((Go.bits .and .i64 a1_3 64) != 0)) = false := by simpa using c361))
            (try (have c361b2 : ((t415 == a0_0 && (t416 == a0_1 && (t417 == a0_2 && (t418 == a0_3 && (t419 == a0_4 && (t420 == a0_5)))))) == ((Go.bits .and .i64 a1_3 64) != 0)) = false := by simpa using c361))
            (try (have c361b3 : ¬ ((t415 == a0_0 && (t416 == a0_1 && (t417 == a0_2 && (t418 == a0_3 && (t419 == a0_4 && (t420 == a0_5)))))) = ((Go.bits .and .i64 a1_3 64) != 0)) := by simpa using c361))
            clear c361
            exact absurd ((Option.some.inj H).trans HT.out) (by decide)
      ·rw [if_neg c32] at H
       have c32b0 : (t386 == 21) = false := beq_eq_false_iff_ne.mpr c32
       have c32b1 : (t386 != 21) = true := bne_iff_ne.mpr c32
       exact absurd ((Option.some.inj H).trans HT.out) (by decide)
     ·replace c31 := Bool.eq_false_iff.mpr c31
      subst c31
      have H1 : (some false) = some r := by rw [if_neg (show ¬ (false = true) by decide)] at H; exact H
      clear H
      have H := H1
      clear H1
      exact absurd ((Option.some.inj H).trans HT.out) (by decide)
    ·replace c22 := Bool.eq_false_iff.mpr c22
     subst c22
     have H1 : (some t376) = some r := by rw [if_neg (show ¬ (false = true) by decide)] at H; exact H
     clear H
     have H := H1
     clear H1
     obtain rfl := Option.some.inj H
     have hnb1050 := NB374_375.out
     have hnc1050 := NB375_374.out
     have hcz1051_0 : wc.cell? ⟨gb374, 0, none⟩ = some (.int .u64 a0_0) := (blk_cell BK374.out 0).trans rfl
     have hcz1051_1 : wc.cell? ⟨gb374, 1, none⟩ = some (.int .u64 a0_1) := (blk_cell BK374.out 1).trans rfl
     have hcz1051_2 : wc.cell? ⟨gb374, 2, none⟩ = some (.int .u64 a0_2) := (blk_cell BK374.out 2).trans rfl
     have hcz1051_3 : wc.cell? ⟨gb374, 3, none⟩ = some (.int .i64 a0_3) := (blk_cell BK374.out 3).trans rfl
     have hcz1051_4 : wc.cell? ⟨gb374, 4, none⟩ = some (.int .i64 a0_4) := (blk_cell BK374.out 4).trans rfl
     have hcz1051_5 : wc.cell? ⟨gb374, 5, none⟩ = some (.bool a0_5) := (blk_cell BK374.out 5).trans rfl
     have hfz1051_0 := blk_frozen BK374.out 0
     have hfz1051_1 := blk_frozen BK374.out 1
     have hfz1051_2 := blk_frozen BK374.out 2
     have hfz1051_3 := blk_frozen BK374.out 3
     have hfz1051_4 := blk_frozen BK374.out 4
     have hfz1051_5 := blk_frozen BK374.out 5
     have hcz1052_0 : wc.cell? ⟨gb375, 0, none⟩ = some (.int .u64 a1_0) := (blk_cell BK375.out 0).trans rfl
     have hcz1052_1 : wc.cell? ⟨gb375, 1, none⟩ = some (.int .u64 a1_1) := (blk_cell BK375.out 1).trans rfl
     have hcz1052_2 : wc.cell? ⟨gb375, 2, none⟩ = some (.int .u64 a1_2) := (blk_cell BK375.out 2).trans rfl
     have hcz1052_3 : wc.cell? ⟨gb375, 3, none⟩ = some (.int .i64 a1_3) := (blk_cell BK375.out 3).trans rfl
     have hcz1052_4 : wc.cell? ⟨gb375, 4, none⟩ = some (.int .i64 a1_4) := (blk_cell BK375.out 4).trans rfl
     have hcz1052_5 : wc.cell? ⟨gb375, 5, none⟩ = some (.bool a1_5) := (blk_cell BK375.out 5).trans rfl
     have hfz1052_0 := blk_frozen BK375.out 0
     have hfz1052_1 := blk_frozen BK375.out 1
     have hfz1052_2 := blk_frozen BK375.out 2
     have hfz1052_3 := blk_frozen BK375.out 3
     have hfz1052_4 := blk_frozen BK375.out 4
     have hfz1052_5 := blk_frozen BK375.out 5
     go_wp2_with (first | ((with_reducible refine gate_dst (N := 43) rfl ?_); (with_reducible refine gate_callee (f := 12) rfl ?_); refine goesL_ (some 43) rfl rfl Tryd.func12 (by kernel_rfl) rfl #[.agg #[.int .u64 a0_0, .int .u64 a0_1, .int .u64 a0_2, .int .i64 a0_3, .int .i64 a0_4, .bool a0_5], .agg #[.int .u64 a1_0, .int .u64 a1_1, .int .u64 a1_2, .int .i64 a1_3, .int .i64 a1_4, .bool a1_5]] rfl (by (try simp only [List.map_toArray, List.map_cons, List.map_nil]); first | done | rfl | (simp only [List.length_drop, List.length_take]; rfl)) ?_; (with_reducible refine (cap_Seal.calls a0_0 a0_1 a0_2 a0_3 a0_4 a0_5 a1_0 a1_1 a1_2 a1_3 a1_4 a1_5 t379 t380 t381 t382 t383 false _ A21.out).mono ?_); rintro e w1053 ⟨rfl, hb⟩; refine ⟨_, rfl, ?_⟩; have n0_ := Aside0.mk (blk_below (g := gb374) (o := .cells #[.int .u64 a0_0, .int .u64 a0_1, .int .u64 a0_2, .int .i64 a0_3, .int .i64 a0_4, .bool a0_5] 24 (0, 0)) (by (with_reducible repeat (first | refine blk_drewN ?_ _ | refine blk_drew ?_ | refine blk_alloc ?_ _)); exact BK374.out) hb); have n1_ := Aside0.mk (blk_below (g := gb375) (o := .cells #[.int .u64 a1_0, .int .u64 a1_1, .int .u64 a1_2, .int .i64 a1_3, .int .i64 a1_4, .bool a1_5] 24 (0, 0)) (by (with_reducible repeat (first | refine blk_drewN ?_ _ | refine blk_drew ?_ | refine blk_alloc ?_ _)); exact BK375.out) hb); have n2_ := Aside0.mk (below_step (by repeat (first | (with_reducible first | exact HB.out | apply below_alloc | apply pw_below_drewN | apply below_drew1 | refine below_set ?_ GE374.out | refine below_set ?_ GE375.out) | exact HB.out)) hb); clear BK374; clear BK375; clear HB; have BK374 := n0_; have BK375 := n1_; have HB := n2_; clear n0_ n1_ n2_; (try clear hb); (try clear hb2); (try clear hk); (try clear hi)) | ((with_reducible refine gate_dst (N := 12) rfl ?_); refine box_event ?hg (N := 12) ?hd (cs := #[.int .u64 0, .int .u64 0, .int .u64 0, .int .i64 0, .int .i64 0, .bool false]) (t := 24) ?hr ?_; (case hd => rfl); (case hg => rfl); (case hr => first | (go_simp; done) | (go_simp; rfl)); intro gb385 hg w1054 hbox hb; have n0_ := Aside0.mk (blk_below (g := gb374) (o := .cells #[.int .u64 a0_0, .int .u64 a0_1, .int .u64 a0_2, .int .i64 a0_3, .int .i64 a0_4, .bool a0_5] 24 (0, 0)) (by (with_reducible repeat (first | refine blk_drewN ?_ _ | refine blk_drew ?_ | refine blk_alloc ?_ _)); exact BK374.out) hb); have n1_ := Aside0.mk (blk_below (g := gb375) (o := .cells #[.int .u64 a1_0, .int .u64 a1_1, .int .u64 a1_2, .int .i64 a1_3, .int .i64 a1_4, .bool a1_5] 24 (0, 0)) (by (with_reducible repeat (first | refine blk_drewN ?_ _ | refine blk_drew ?_ | refine blk_alloc ?_ _)); exact BK375.out) hb); have n2_ := Aside0.mk (below_step (by repeat (first | (with_reducible first | exact HB.out | apply below_alloc | apply pw_below_drewN | apply below_drew1 | refine below_set ?_ GE374.out | refine below_set ?_ GE375.out) | exact HB.out)) hb); have n3_ := Aside0.mk (hbox); have n4_ := Aside0.mk ((by rw [hg]; exact (below_size (by repeat (first | (with_reducible first | exact HB.out | apply below_alloc | apply pw_below_drewN | apply below_drew1 | refine below_set ?_ GE374.out | refine below_set ?_ GE375.out) | exact HB.out))) : w.heap.size ≤ gb385)); have n5_ := n4_; have n6_ := Aside0.mk ((by rw [hg]; exact Nat.ne_of_lt (blk_lt (g := gb374) (o := .cells #[.int .u64 a0_0, .int .u64 a0_1, .int .u64 a0_2, .int .i64 a0_3, .int .i64 a0_4, .bool a0_5] 24 (0, 0)) (by (with_reducible repeat (first | refine blk_drewN ?_ _ | refine blk_drew ?_ | refine blk_alloc ?_ _)); exact BK374.out)) : gb374 ≠ gb385)); have n7_ := Aside0.mk n6_.out.symm; have n8_ := Aside0.mk ((by rw [hg]; exact Nat.ne_of_lt (blk_lt (g := gb375) (o := .cells #[.int .u64 a1_0, .int .u64 a1_1, .int .u64 a1_2, .int .i64 a1_3, .int .i64 a1_4, .bool a1_5] 24 (0, 0)) (by (with_reducible repeat (first | refine blk_drewN ?_ _ | refine blk_drew ?_ | refine blk_alloc ?_ _)); exact BK375.out)) : gb375 ≠ gb385)); have n9_ := Aside0.mk n8_.out.symm; clear BK374; clear BK375; clear HB; have BK374 := n0_; have BK375 := n1_; have HB := n2_; have BK385 := n3_; have GW385 := n4_; have GE385 := n5_; have NB374_385 := n6_; have NB385_374 := n7_; have NB375_385 := n8_; have NB385_375 := n9_; clear n0_ n1_ n2_ n3_ n4_ n5_ n6_ n7_ n8_ n9_; clear hb hbox hg; have hnb1055 := NB385_374.out; have hnc1055 := NB374_385.out; have hnb1056 := NB385_375.out; have hnc1056 := NB375_385.out; obtain ⟨hcz1057_0, hcz1057_1, hcz1057_2, hcz1057_3, hcz1057_4, hcz1057_5, hfz1057_0, hfz1057_1, hfz1057_2, hfz1057_3, hfz1057_4, hfz1057_5⟩ := cells6 BK385.out) | ((with_reducible refine gate_store (t := 24) (p := 12) rfl ?_); refine store_event (t := 24) (p := 12) (v := ?vo_w1058) (w1 := ((((((w1054.setCell ⟨gb385, 0, none⟩ (.int .u64 t379)).setCell ⟨gb385, 1, none⟩ (.int .u64 t380)).setCell ⟨gb385, 2, none⟩ (.int .u64 t381)).setCell ⟨gb385, 3, none⟩ (.int .i64 t382)).setCell ⟨gb385, 4, none⟩ (.int .i64 t383)).setCell ⟨gb385, 5, none⟩ (.bool false))) ?hg ?ho ?hn ?hr ?_; (case ho => rfl); (case hg => rfl); (case hn => rfl); (case hr => first | (go_simp; done) | (go_simp; rfl)); intro w1058 hw; have n0_ : Aside0 (w1058.heap[gb374]? = some (.cells #[.int .u64 a0_0, .int .u64 a0_1, .int .u64 a0_2, .int .i64 a0_3, .int .i64 a0_4, .bool a0_5] 24 (0, 0))) := ⟨(by rw [hw]; exact (by (iterate 6 ((with_reducible repeat (first | refine blk_drewN ?_ _ | refine blk_drew ?_ | refine blk_alloc ?_ _)); refine blk_far ?_ NB374_385.out _)); (with_reducible repeat (first | refine blk_drewN ?_ _ | refine blk_drew ?_ | refine blk_alloc ?_ _)); exact BK374.out))⟩; have n1_ : Aside0 (w1058.heap[gb375]? = some (.cells #[.int .u64 a1_0, .int .u64 a1_1, .int .u64 a1_2, .int .i64 a1_3, .int .i64 a1_4, .bool a1_5] 24 (0, 0))) := ⟨(by rw [hw]; exact (by (iterate 6 ((with_reducible repeat (first | refine blk_drewN ?_ _ | refine blk_drew ?_ | refine blk_alloc ?_ _)); refine blk_far ?_ NB375_385.out _)); (with_reducible repeat (first | refine blk_drewN ?_ _ | refine blk_drew ?_ | refine blk_alloc ?_ _)); exact BK375.out))⟩; have n2_ : Aside0 (w1058.heap[gb385]? = some (.cells #[.int .u64 t379, .int .u64 t380, .int .u64 t381, .int .i64 t382, .int .i64 t383, .bool false] 24 (0, 0))) := ⟨(by rw [hw]; exact (by (with_reducible repeat (first | refine blk_drewN ?_ _ | refine blk_drew ?_ | refine blk_alloc ?_ _)); refine blk_put (cs := #[.int .u64 t379, .int .u64 t380, .int .u64 t381, .int .i64 t382, .int .i64 t383, .bool false]) ?_ 5 _ rfl; (with_reducible repeat (first | refine blk_drewN ?_ _ | refine blk_drew ?_ | refine blk_alloc ?_ _)); refine blk_put (cs := #[.int .u64 t379, .int .u64 t380, .int .u64 t381, .int .i64 t382, .int .i64 0, .bool false]) ?_ 4 _ rfl; (with_reducible repeat (first | refine blk_drewN ?_ _ | refine blk_drew ?_ | refine blk_alloc ?_ _)); refine blk_put (cs := #[.int .u64 t379, .int .u64 t380, .int .u64 t381, .int .i64 0, .int .i64 0, .bool false]) ?_ 3 _ rfl; (with_reducible repeat (first | refine blk_drewN ?_ _ | refine blk_drew ?_ | refine blk_alloc ?_ _)); refine blk_put (cs := #[.int .u64 t379, .int .u64 t380, .int .u64 0, .int .i64 0, .int .i64 0, .bool false]) ?_ 2 _ rfl; (with_reducible repeat (first | refine blk_drewN ?_ _ | refine blk_drew ?_ | refine blk_alloc ?_ _)); refine blk_put (cs := #[.int .u64 t379, .int .u64 0, .int .u64 0, .int .i64 0, .int .i64 0, .bool false]) ?_ 1 _ rfl; (with_reducible repeat (first | refine blk_drewN ?_ _ | refine blk_drew ?_ | refine blk_alloc ?_ _)); refine blk_put (cs := #[.int .u64 0, .int .u64 0, .int .u64 0, .int .i64 0, .int .i64 0, .bool false]) ?_ 0 _ rfl; (with_reducible repeat (first | refine blk_drewN ?_ _ | refine blk_drew ?_ | refine blk_alloc ?_ _)); exact BK385.out))⟩; have n3_ : Aside0 (Below w.heap.size w w1058) := ⟨(by rw [hw]; exact (by repeat (first | (with_reducible first | exact HB.out | apply below_alloc | apply pw_below_drewN | apply below_drew1 | refine below_set ?_ GE374.out | refine below_set ?_ GE375.out | refine below_set ?_ GE385.out) | exact HB.out)))⟩; clear hw; clear BK374; clear BK375; clear BK385; clear HB; have BK374 := n0_; have BK375 := n1_; have BK385 := n2_; have HB := n3_; clear n0_ n1_ n2_ n3_; obtain ⟨hcz1059_0, hcz1059_1, hcz1059_2, hcz1059_3, hcz1059_4, hcz1059_5, hfz1059_0, hfz1059_1, hfz1059_2, hfz1059_3, hfz1059_4, hfz1059_5⟩ := cells6 BK385.out))
     go_ret
     exact ⟨by first | rfl | (simp [errW_none, errW_some] <;> rfl) | (simp [*, errW_none, errW_some] <;> rfl), by repeat (first | (with_reducible first | exact HB.out | apply below_alloc | apply pw_below_drewN | apply below_drew1 | refine below_set ?_ GE374.out | refine below_set ?_ GE375.out | refine below_set ?_ GE385.out) | exact HB.out)⟩

end Go.Proofs.YtafpkpalkaphkaaDoor.P
