/- What functions of the program, and of its laws, give, each proved of its code by a walk; no condition. -/
import Derived.Test.YtafpkpalkaphkaaDoorKCapLessPx0
import Derived.Test.YtafpkpalkaphkaaDoorKCapLessPx3
import Derived.Test.YtafpkpalkaphkaaDoorKCapLessPx4
import Derived.Test.YtafpkpalkaphkaaDoorKCapLessPx6
import Derived.Test.YtafpkpalkaphkaaDoorKCapLessPx7
import Derived.Test.YtafpkpalkaphkaaDoorKCapLessPx8
import Derived.Test.YtafpkpalkaphkaaDoorKCapLessPx9
import Derived.Test.YtafpkpalkaphkaaDoorKCapLessPx10
import Derived.Test.YtafpkpalkaphkaaDoorKCapLessPx13
namespace Go.Proofs.YtafpkpalkaphkaaDoor.P
open Go.RowKit Go.Proofs.YtafpkpalkaphkaaDoorW.PrintWords Go.Proofs.YtafpkpalkaphkaaDoorW.PrintLast Go.Proofs.YtafpkpalkaphkaaDoorW.PrintMore
attribute [local go_sem] max2_int min2_int max_two min_two max_three min_three max_four min_four   -- for this text's walks alone
set_option linter.unusedVariables false
set_option linter.unusedSimpArgs false

def curtilagelaw02_CapLess.j0 : Nat → Int → Int → Bool → Bool → Int → Int → Int → Int → Int → Bool → Option (Bool)
  | 0, _, _, _, _, _, _, _, _, _, _ => none
  | k + 1, x1, x2, x7, x24, x614000, x614001, x614002, x614003, x614004, x614005 => if x24 = true then (some x7) else ((cap_Move.f x614000 x614001 x614002 x614003 x614004 x614005 x1).bind fun bt616 => ((cap_Within.f bt616.1 bt616.2.1 bt616.2.2.1 bt616.2.2.2.1 bt616.2.2.2.2.1 bt616.2.2.2.2.2 x614000 x614001 x614002 x614003 x614004 x614005).bind fun t622 => ((cap_Bound.f x614000 x614001 x614002 x614003 x614004 x614005 x1).bind fun bt623 => ((cap_Within.f bt623.1 bt623.2.1 bt623.2.2.1 bt623.2.2.2.1 bt623.2.2.2.2.1 bt623.2.2.2.2.2 x614000 x614001 x614002 x614003 x614004 x614005).bind fun t629 => ((cap_Move.f x614000 x614001 x614002 x614003 x614004 x614005 x1).bind fun bt630 => ((cap_Bound.f bt630.1 bt630.2.1 bt630.2.2.1 bt630.2.2.2.1 bt630.2.2.2.2.1 bt630.2.2.2.2.2 (IntKind.u64.wrap (x2))).bind fun bt636 => ((cap_Within.f bt636.1 bt636.2.1 bt636.2.2.1 bt636.2.2.2.1 bt636.2.2.2.2.1 bt636.2.2.2.2.2 x614000 x614001 x614002 x614003 x614004 x614005).bind fun t642 => ((cap_And.f x614000 x614001 x614002 x614003 x614004 x614005 x2).bind fun bt643 => ((cap_Within.f bt643.1 bt643.2.1 bt643.2.2.1 bt643.2.2.2.1 bt643.2.2.2.2.1 bt643.2.2.2.2.2 x614000 x614001 x614002 x614003 x614004 x614005).bind fun t649 => ((cap_Clear.f x614000 x614001 x614002 x614003 x614004 x614005).bind fun bt650 => ((cap_Within.f bt650.1 bt650.2.1 bt650.2.2.1 bt650.2.2.2.1 bt650.2.2.2.2.1 bt650.2.2.2.2.2 x614000 x614001 x614002 x614003 x614004 x614005).bind fun t656 => ((cap_Within.f x614000 x614001 x614002 x614003 x614004 x614005 x614000 x614001 x614002 x614003 x614004 x614005).bind fun t657 => (if x7 = true then (if t622 = true then (if t629 = true then (if t642 = true then (if t649 = true then (if t656 = true then (some t657) else (some false)) else (some false)) else (some false)) else (some false)) else (some false)) else (some false))))))))))))))
def curtilagelaw02_CapLess.f (k : Nat) (a0_0 : Int) (a0_1 : Int) (a0_2 : Int) (a0_3 : Int) (a0_4 : Int) (a0_5 : Bool) (a1 : Int) (a2 : Int) : Option (Bool) := (curtilagelaw02_awake.f k).bind fun t614 => ((curtilageref02_Right.f a0_0 a0_1 a0_2 a0_3 a0_4 a0_5).bind fun t615 => (if t615 = true then (curtilagelaw02_CapLess.j0 k a1 a2 t614 (a0_4 != (-1)) a0_0 a0_1 a0_2 a0_3 a0_4 a0_5) else (curtilagelaw02_CapLess.j0 k a1 a2 t614 true a0_0 a0_1 a0_2 a0_3 a0_4 a0_5)))
theorem curtilagelaw02_CapLess.mono_l : ∀ k, (∀ y0 y1 y2 y3 y4 y5 y6 y7 y8 y9, LeO (curtilagelaw02_CapLess.j0 k y0 y1 y2 y3 y4 y5 y6 y7 y8 y9) (curtilagelaw02_CapLess.j0 (k + 1) y0 y1 y2 y3 y4 y5 y6 y7 y8 y9))
  | 0 => fun _ _ _ _ _ _ _ _ _ _ r h => by simp [curtilagelaw02_CapLess.j0] at h
  | k + 1 => by
    have ih0 := curtilagelaw02_CapLess.mono_l k
    · intro y0 y1 y2 y3 y4 y5 y6 y7 y8 y9
      unfold curtilagelaw02_CapLess.j0
      repeat' first
      | (with_reducible exact ih0 _ _ _ _ _ _ _ _ _ _)
      | (with_reducible exact curtilagelaw02_awake.mono _)
      | (with_reducible exact LeO.refl _)
      | (with_reducible exact LeO.none _)
      | (with_reducible refine LeO.ite ?_ ?_)
      | (with_reducible refine LeO.bind ?_ (fun _ => ?_))
      | exact ih0 _ _ _ _ _ _ _ _ _ _
      | exact curtilagelaw02_awake.mono _
      | exact LeO.none _
      | refine LeO.ite ?_ ?_
      | refine LeO.bind ?_ (fun _ => ?_)
theorem curtilagelaw02_CapLess.mono : ∀ a0 a1 a2 a3 a4 a5 a6 a7 k, LeO (curtilagelaw02_CapLess.f k a0 a1 a2 a3 a4 a5 a6 a7) (curtilagelaw02_CapLess.f (k + 1) a0 a1 a2 a3 a4 a5 a6 a7) := by
  intro a0 a1 a2 a3 a4 a5 a6 a7 k
  have ih0 := curtilagelaw02_CapLess.mono_l k
  unfold curtilagelaw02_CapLess.f
  repeat' first
      | (with_reducible exact ih0 _ _ _ _ _ _ _ _ _ _)
      | (with_reducible exact curtilagelaw02_awake.mono _)
      | (with_reducible exact LeO.refl _)
      | (with_reducible exact LeO.none _)
      | (with_reducible refine LeO.ite ?_ ?_)
      | (with_reducible refine LeO.bind ?_ (fun _ => ?_))
      | exact ih0 _ _ _ _ _ _ _ _ _ _
      | exact curtilagelaw02_awake.mono _
      | exact LeO.none _
      | refine LeO.ite ?_ ?_
      | refine LeO.bind ?_ (fun _ => ?_)
def curtilagelaw02_CapLess.T7 : Bool × List (List Nat × List Nat) := (true, [([], []), ([], []), ([0, 1], [0, 1]), ([], []), ([3], [3]), ([2, 4, 2], [2, 4]), ([], []), ([5, 6, 5], [5, 6]), ([7, 7, 0, 1, 2, 3, 4, 5, 6, 7], [7])])
def curtilagelaw02_CapLess.B7 : List Nat := [0, 0, 3, 0, 8, 31, 0, 127, 255]
theorem curtilagelaw02_CapLess.tab7 : rtab .any (opsOf Tryd.f9 7) = curtilagelaw02_CapLess.T7 := by kernel_rfl
theorem curtilagelaw02_CapLess.bits7 : waitsOk curtilagelaw02_CapLess.T7.2 curtilagelaw02_CapLess.B7 = true := by kernel_rfl
set_option maxHeartbeats 8000000 in
set_option maxRecDepth 100000 in
theorem curtilagelaw02_CapLess.calls (k : Nat) (a0_0 : Int) (a0_1 : Int) (a0_2 : Int) (a0_3 : Int) (a0_4 : Int) (a0_5 : Bool) (a1 : Int) (a2 : Int) (r : Bool) (w : World) (h : curtilagelaw02_CapLess.f k a0_0 a0_1 a0_2 a0_3 a0_4 a0_5 a1 a2 = some r) (htab : Lib.TabIs Tryd.prog w "internal/strconv.uint64pow10" .u64 Lib.pow10Tab) (hr0 : r = true) :
    Calls Tryd.prog 9 #[.agg #[.int .u64 a0_0, .int .u64 a0_1, .int .u64 a0_2, .int .i64 a0_3, .int .i64 a0_4, .bool a0_5], .int .u64 a1, .int .i64 a2] w fun e w' => e = .returned (.bool r) ∧ Below w.heap.size w w' := by
  have HT := Aside0.mk hr0
  clear hr0
  have HTAB := Aside0.mk (Lib.tabBelow_of_tabIs htab)
  clear htab
  have hu24 := Tryd.underlying24
  have HB := Aside0.mk (Below.refl w.heap.size w)
  have H : ((curtilagelaw02_awake.f k).bind fun t614 => ((curtilageref02_Right.f a0_0 a0_1 a0_2 a0_3 a0_4 a0_5).bind fun t615 => (if t615 = true then (curtilagelaw02_CapLess.j0 k a1 a2 t614 (a0_4 != (-1)) a0_0 a0_1 a0_2 a0_3 a0_4 a0_5) else (curtilagelaw02_CapLess.j0 k a1 a2 t614 true a0_0 a0_1 a0_2 a0_3 a0_4 a0_5)))) = some r := h
  clear h
  replace H := Option.bind_eq_some_iff.mp H
  obtain ⟨t614, A40, H⟩ := H
  replace H : ((curtilageref02_Right.f a0_0 a0_1 a0_2 a0_3 a0_4 a0_5).bind fun t615 => (if t615 = true then (curtilagelaw02_CapLess.j0 k a1 a2 t614 (a0_4 != (-1)) a0_0 a0_1 a0_2 a0_3 a0_4 a0_5) else (curtilagelaw02_CapLess.j0 k a1 a2 t614 true a0_0 a0_1 a0_2 a0_3 a0_4 a0_5))) = some r := H
  have A4 := Aside0.mk A40
  clear A40
  replace H := Option.bind_eq_some_iff.mp H
  obtain ⟨t615, A50, H⟩ := H
  replace H : (if t615 = true then (curtilagelaw02_CapLess.j0 k a1 a2 t614 (a0_4 != (-1)) a0_0 a0_1 a0_2 a0_3 a0_4 a0_5) else (curtilagelaw02_CapLess.j0 k a1 a2 t614 true a0_0 a0_1 a0_2 a0_3 a0_4 a0_5)) = some r := H
  have A5 := Aside0.mk A50
  clear A50
  have HC6 := Aside0.mk H
  clear H
  go_enter Tryd.func9, Tryd.ntmps9
  go_upto_region 3 with (first | ((with_reducible refine gate_dst (N := 3) rfl ?_); refine box_event ?hg (N := 3) ?hd (cs := #[.int .u64 a0_0, .int .u64 a0_1, .int .u64 a0_2, .int .i64 a0_3, .int .i64 a0_4, .bool a0_5]) (t := 24) ?hr ?_; (case hd => rfl); (case hg => rfl); (case hr => first | (go_simp; done) | (go_simp; rfl)); intro gb613 hg w7 hbox hb; have n0_ := Aside0.mk (below_step (by repeat (first | (with_reducible first | exact HB.out | apply below_alloc | apply pw_below_drewN | apply below_drew1) | exact HB.out)) hb); have n1_ := Aside0.mk (hbox); have n2_ := Aside0.mk ((by rw [hg]; exact (below_size (by repeat (first | (with_reducible first | exact HB.out | apply below_alloc | apply pw_below_drewN | apply below_drew1) | exact HB.out))) : w.heap.size ≤ gb613)); have n3_ := Aside0.mk ((by rw [hg]; exact (below_size (by repeat (first | (with_reducible first | exact HB.out | apply below_alloc | apply pw_below_drewN | apply below_drew1) | exact HB.out))) : w.heap.size ≤ gb613)); clear HB; have HB := n0_; have BK613 := n1_; have GW613 := n2_; have GE613 := n3_; clear n0_ n1_ n2_ n3_; clear hb hbox hg) | ((with_reducible refine gate_dst (N := 15) rfl ?_); (with_reducible refine gate_callee (f := 10) rfl ?_); refine goesL_ (some 15) rfl rfl Tryd.func10 (by kernel_rfl) rfl #[] rfl (by (try simp only [List.map_toArray, List.map_cons, List.map_nil]); first | done | rfl | (simp only [List.length_drop, List.length_take]; rfl)) ?_; (with_reducible refine (curtilagelaw02_awake.calls k  t614 _ A4.out (tab_on HTAB.out (by repeat (first | (with_reducible first | exact HB.out | apply below_alloc | apply pw_below_drewN | apply below_drew1 | refine below_set ?_ GE613.out) | exact HB.out)))).mono ?_); rintro e w8 ⟨rfl, hb⟩; refine ⟨_, rfl, ?_⟩; have n0_ := Aside0.mk (blk_below (g := gb613) (o := .cells #[.int .u64 a0_0, .int .u64 a0_1, .int .u64 a0_2, .int .i64 a0_3, .int .i64 a0_4, .bool a0_5] 24 (0, 0)) (by (with_reducible repeat (first | refine blk_drewN ?_ _ | refine blk_drew ?_ | refine blk_alloc ?_ _)); exact BK613.out) hb); have n1_ := Aside0.mk (below_step (by repeat (first | (with_reducible first | exact HB.out | apply below_alloc | apply pw_below_drewN | apply below_drew1 | refine below_set ?_ GE613.out) | exact HB.out)) hb); clear BK613; clear HB; have BK613 := n0_; have HB := n1_; clear n0_ n1_; (try clear hb); (try clear hb2); (try clear hk); (try clear hi); have hcz9_0 : w8.cell? ⟨gb613, 0, none⟩ = some (.int .u64 a0_0) := (blk_cell BK613.out 0).trans rfl; have hcz9_1 : w8.cell? ⟨gb613, 1, none⟩ = some (.int .u64 a0_1) := (blk_cell BK613.out 1).trans rfl; have hcz9_2 : w8.cell? ⟨gb613, 2, none⟩ = some (.int .u64 a0_2) := (blk_cell BK613.out 2).trans rfl; have hcz9_3 : w8.cell? ⟨gb613, 3, none⟩ = some (.int .i64 a0_3) := (blk_cell BK613.out 3).trans rfl; have hcz9_4 : w8.cell? ⟨gb613, 4, none⟩ = some (.int .i64 a0_4) := (blk_cell BK613.out 4).trans rfl; have hcz9_5 : w8.cell? ⟨gb613, 5, none⟩ = some (.bool a0_5) := (blk_cell BK613.out 5).trans rfl; have hfz9_0 := blk_frozen BK613.out 0; have hfz9_1 := blk_frozen BK613.out 1; have hfz9_2 := blk_frozen BK613.out 2; have hfz9_3 := blk_frozen BK613.out 3; have hfz9_4 := blk_frozen BK613.out 4; have hfz9_5 := blk_frozen BK613.out 5) | ((with_reducible refine gate_dst (N := 17) rfl ?_); (with_reducible refine gate_callee (f := 11) rfl ?_); refine goesL_ (some 17) rfl rfl Tryd.func11 (by kernel_rfl) rfl #[.agg #[.int .u64 a0_0, .int .u64 a0_1, .int .u64 a0_2, .int .i64 a0_3, .int .i64 a0_4, .bool a0_5]] rfl (by (try simp only [List.map_toArray, List.map_cons, List.map_nil]); first | done | rfl | (simp only [List.length_drop, List.length_take]; rfl)) ?_; (with_reducible refine (curtilageref02_Right.calls a0_0 a0_1 a0_2 a0_3 a0_4 a0_5 t615 _ A5.out).mono ?_); rintro e w10 ⟨rfl, hb⟩; refine ⟨_, rfl, ?_⟩; have n0_ := Aside0.mk (blk_below (g := gb613) (o := .cells #[.int .u64 a0_0, .int .u64 a0_1, .int .u64 a0_2, .int .i64 a0_3, .int .i64 a0_4, .bool a0_5] 24 (0, 0)) (by (with_reducible repeat (first | refine blk_drewN ?_ _ | refine blk_drew ?_ | refine blk_alloc ?_ _)); exact BK613.out) hb); have n1_ := Aside0.mk (below_step (by repeat (first | (with_reducible first | exact HB.out | apply below_alloc | apply pw_below_drewN | apply below_drew1 | refine below_set ?_ GE613.out) | exact HB.out)) hb); clear BK613; clear HB; have BK613 := n0_; have HB := n1_; clear n0_ n1_; (try clear hb); (try clear hb2); (try clear hk); (try clear hi)))
  (try simp only [Act.put, List.setIfInBounds_toArray, List.set_cons_zero, List.set_cons_succ])
  go_cut [24] (fun v24 wc => ∃ (kq : Nat) (x24_5 : Bool), v24 = .bool x24_5 ∧ Aside0 (curtilagelaw02_CapLess.j0 kq a1 a2 t614 x24_5 a0_0 a0_1 a0_2 a0_3 a0_4 a0_5 = some r) ∧ Aside0 (kq ≤ k) ∧ Aside0 (wc.heap[gb613]? = some (.cells #[.int .u64 a0_0, .int .u64 a0_1, .int .u64 a0_2, .int .i64 a0_3, .int .i64 a0_4, .bool a0_5] 24 (0, 0))) ∧ Aside0 (Below w.heap.size w wc))
  case first =>
    have H := HC6.out
    clear HC6
    by_cases c11 : t615 = true
    · subst c11
      have H1 : (curtilagelaw02_CapLess.j0 k a1 a2 t614 (a0_4 != (-1)) a0_0 a0_1 a0_2 a0_3 a0_4 a0_5) = some r := by rw [if_pos rfl] at H; exact H
      clear H
      have H := H1
      clear H1
      have H' := Aside0.mk H
      clear H
      have hcz12_0 : w10.cell? ⟨gb613, 0, none⟩ = some (.int .u64 a0_0) := (blk_cell BK613.out 0).trans rfl
      have hcz12_1 : w10.cell? ⟨gb613, 1, none⟩ = some (.int .u64 a0_1) := (blk_cell BK613.out 1).trans rfl
      have hcz12_2 : w10.cell? ⟨gb613, 2, none⟩ = some (.int .u64 a0_2) := (blk_cell BK613.out 2).trans rfl
      have hcz12_3 : w10.cell? ⟨gb613, 3, none⟩ = some (.int .i64 a0_3) := (blk_cell BK613.out 3).trans rfl
      have hcz12_4 : w10.cell? ⟨gb613, 4, none⟩ = some (.int .i64 a0_4) := (blk_cell BK613.out 4).trans rfl
      have hcz12_5 : w10.cell? ⟨gb613, 5, none⟩ = some (.bool a0_5) := (blk_cell BK613.out 5).trans rfl
      have hfz12_0 := blk_frozen BK613.out 0
      have hfz12_1 := blk_frozen BK613.out 1
      have hfz12_2 := blk_frozen BK613.out 2
      have hfz12_3 := blk_frozen BK613.out 3
      have hfz12_4 := blk_frozen BK613.out 4
      have hfz12_5 := blk_frozen BK613.out 5
      go_wp2
      go_meet
      case rel => exact ⟨_, ((a0_4 != (-1))), (by first | rfl | (simp; done) | (simp [*]; done)), H', ⟨by first | omega | exact Nat.le_refl _⟩, ⟨by (with_reducible repeat (first | refine blk_drewN ?_ _ | refine blk_drew ?_ | refine blk_alloc ?_ _)); exact BK613.out⟩, ⟨by repeat (first | (with_reducible first | exact HB.out | apply below_alloc | apply pw_below_drewN | apply below_drew1 | refine below_set ?_ GE613.out) | exact HB.out)⟩⟩
    · replace c11 := Bool.eq_false_iff.mpr c11
      subst c11
      have H1 : (curtilagelaw02_CapLess.j0 k a1 a2 t614 true a0_0 a0_1 a0_2 a0_3 a0_4 a0_5) = some r := by rw [if_neg (show ¬ (false = true) by decide)] at H; exact H
      clear H
      have H := H1
      clear H1
      have H' := Aside0.mk H
      clear H
      go_wp2
      go_meet
      case rel => exact ⟨_, (true), (by first | rfl | (simp; done) | (simp [*]; done)), H', ⟨by first | omega | exact Nat.le_refl _⟩, ⟨by (with_reducible repeat (first | refine blk_drewN ?_ _ | refine blk_drew ?_ | refine blk_alloc ?_ _)); exact BK613.out⟩, ⟨by repeat (first | (with_reducible first | exact HB.out | apply below_alloc | apply pw_below_drewN | apply below_drew1 | refine below_set ?_ GE613.out) | exact HB.out)⟩⟩
  case rest =>
    clear HC6
    try clear c1
    try clear p2
    try clear c9
    try clear c10
    try clear c11
    try clear hcz12_0
    try clear hcz12_1
    try clear hcz12_2
    try clear hcz12_3
    try clear hcz12_4
    try clear hcz12_5
    try clear hcz9_0
    try clear hcz9_1
    try clear hcz9_2
    try clear hcz9_3
    try clear hcz9_4
    try clear hcz9_5
    try clear hfz12_0
    try clear hfz12_1
    try clear hfz12_2
    try clear hfz12_3
    try clear hfz12_4
    try clear hfz12_5
    try clear hfz9_0
    try clear hfz9_1
    try clear hfz9_2
    try clear hfz9_3
    try clear hfz9_4
    try clear hfz9_5
    obtain ⟨kq, x24_5, rfl, HA, HJ5, BK613, HB⟩ := hcut
    cases kq with
    | zero => exact absurd HA.out (by simp [curtilagelaw02_CapLess.j0])
    | succ kj5 =>
      have H := HA.out
      clear HA
      simp only [curtilagelaw02_CapLess.j0] at H
      by_cases c13 : x24_5 = true
      · subst c13
        have H1 : (some t614) = some r := by rw [if_pos rfl] at H; exact H
        clear H
        have H := H1
        clear H1
        obtain rfl := Option.some.inj H
        go_wp2
        go_ret
        exact ⟨by first | rfl | (simp [errW_none, errW_some] <;> rfl) | (simp [*, errW_none, errW_some] <;> rfl), by repeat (first | (with_reducible first | exact HB.out | apply below_alloc | apply pw_below_drewN | apply below_drew1 | refine below_set ?_ GE613.out) | exact HB.out)⟩
      · replace c13 := Bool.eq_false_iff.mpr c13
        subst c13
        have H1 : ((cap_Move.f a0_0 a0_1 a0_2 a0_3 a0_4 a0_5 a1).bind fun bt616 => ((cap_Within.f bt616.1 bt616.2.1 bt616.2.2.1 bt616.2.2.2.1 bt616.2.2.2.2.1 bt616.2.2.2.2.2 a0_0 a0_1 a0_2 a0_3 a0_4 a0_5).bind fun t622 => ((cap_Bound.f a0_0 a0_1 a0_2 a0_3 a0_4 a0_5 a1).bind fun bt623 => ((cap_Within.f bt623.1 bt623.2.1 bt623.2.2.1 bt623.2.2.2.1 bt623.2.2.2.2.1 bt623.2.2.2.2.2 a0_0 a0_1 a0_2 a0_3 a0_4 a0_5).bind fun t629 => ((cap_Move.f a0_0 a0_1 a0_2 a0_3 a0_4 a0_5 a1).bind fun bt630 => ((cap_Bound.f bt630.1 bt630.2.1 bt630.2.2.1 bt630.2.2.2.1 bt630.2.2.2.2.1 bt630.2.2.2.2.2 (IntKind.u64.wrap (a2))).bind fun bt636 => ((cap_Within.f bt636.1 bt636.2.1 bt636.2.2.1 bt636.2.2.2.1 bt636.2.2.2.2.1 bt636.2.2.2.2.2 a0_0 a0_1 a0_2 a0_3 a0_4 a0_5).bind fun t642 => ((cap_And.f a0_0 a0_1 a0_2 a0_3 a0_4 a0_5 a2).bind fun bt643 => ((cap_Within.f bt643.1 bt643.2.1 bt643.2.2.1 bt643.2.2.2.1 bt643.2.2.2.2.1 bt643.2.2.2.2.2 a0_0 a0_1 a0_2 a0_3 a0_4 a0_5).bind fun t649 => ((cap_Clear.f a0_0 a0_1 a0_2 a0_3 a0_4 a0_5).bind fun bt650 => ((cap_Within.f bt650.1 bt650.2.1 bt650.2.2.1 bt650.2.2.2.1 bt650.2.2.2.2.1 bt650.2.2.2.2.2 a0_0 a0_1 a0_2 a0_3 a0_4 a0_5).bind fun t656 => ((cap_Within.f a0_0 a0_1 a0_2 a0_3 a0_4 a0_5 a0_0 a0_1 a0_2 a0_3 a0_4 a0_5).bind fun t657 => (if t614 = true then (if t622 = true then (if t629 = true then (if t642 = true then (if t649 = true then (if t656 = true then (some t657) else (some false)) else (some false)) else (some false)) else (some false)) else (some false)) else (some false)))))))))))))) = some r := by rw [if_neg (show ¬ (false = true) by decide)] at H; exact H
        clear H
        have H := H1
        clear H1
        replace H := Option.bind_eq_some_iff.mp H
        obtain ⟨⟨t616, t617, t618, t619, t620, t621⟩, A140, H⟩ := H
        replace H : ((cap_Within.f t616 t617 t618 t619 t620 t621 a0_0 a0_1 a0_2 a0_3 a0_4 a0_5).bind fun t622 => ((cap_Bound.f a0_0 a0_1 a0_2 a0_3 a0_4 a0_5 a1).bind fun bt623 => ((cap_Within.f bt623.1 bt623.2.1 bt623.2.2.1 bt623.2.2.2.1 bt623.2.2.2.2.1 bt623.2.2.2.2.2 a0_0 a0_1 a0_2 a0_3 a0_4 a0_5).bind fun t629 => ((cap_Move.f a0_0 a0_1 a0_2 a0_3 a0_4 a0_5 a1).bind fun bt630 => ((cap_Bound.f bt630.1 bt630.2.1 bt630.2.2.1 bt630.2.2.2.1 bt630.2.2.2.2.1 bt630.2.2.2.2.2 (IntKind.u64.wrap (a2))).bind fun bt636 => ((cap_Within.f bt636.1 bt636.2.1 bt636.2.2.1 bt636.2.2.2.1 bt636.2.2.2.2.1 bt636.2.2.2.2.2 a0_0 a0_1 a0_2 a0_3 a0_4 a0_5).bind fun t642 => ((cap_And.f a0_0 a0_1 a0_2 a0_3 a0_4 a0_5 a2).bind fun bt643 => ((cap_Within.f bt643.1 bt643.2.1 bt643.2.2.1 bt643.2.2.2.1 bt643.2.2.2.2.1 bt643.2.2.2.2.2 a0_0 a0_1 a0_2 a0_3 a0_4 a0_5).bind fun t649 => ((cap_Clear.f a0_0 a0_1 a0_2 a0_3 a0_4 a0_5).bind fun bt650 => ((cap_Within.f bt650.1 bt650.2.1 bt650.2.2.1 bt650.2.2.2.1 bt650.2.2.2.2.1 bt650.2.2.2.2.2 a0_0 a0_1 a0_2 a0_3 a0_4 a0_5).bind fun t656 => ((cap_Within.f a0_0 a0_1 a0_2 a0_3 a0_4 a0_5 a0_0 a0_1 a0_2 a0_3 a0_4 a0_5).bind fun t657 => (if t614 = true then (if t622 = true then (if t629 = true then (if t642 = true then (if t649 = true then (if t656 = true then (some t657) else (some false)) else (some false)) else (some false)) else (some false)) else (some false)) else (some false))))))))))))) = some r := H
        have A14 := Aside0.mk A140
        clear A140
        replace H := Option.bind_eq_some_iff.mp H
        obtain ⟨t622, A150, H⟩ := H
        replace H : ((cap_Bound.f a0_0 a0_1 a0_2 a0_3 a0_4 a0_5 a1).bind fun bt623 => ((cap_Within.f bt623.1 bt623.2.1 bt623.2.2.1 bt623.2.2.2.1 bt623.2.2.2.2.1 bt623.2.2.2.2.2 a0_0 a0_1 a0_2 a0_3 a0_4 a0_5).bind fun t629 => ((cap_Move.f a0_0 a0_1 a0_2 a0_3 a0_4 a0_5 a1).bind fun bt630 => ((cap_Bound.f bt630.1 bt630.2.1 bt630.2.2.1 bt630.2.2.2.1 bt630.2.2.2.2.1 bt630.2.2.2.2.2 (IntKind.u64.wrap (a2))).bind fun bt636 => ((cap_Within.f bt636.1 bt636.2.1 bt636.2.2.1 bt636.2.2.2.1 bt636.2.2.2.2.1 bt636.2.2.2.2.2 a0_0 a0_1 a0_2 a0_3 a0_4 a0_5).bind fun t642 => ((cap_And.f a0_0 a0_1 a0_2 a0_3 a0_4 a0_5 a2).bind fun bt643 => ((cap_Within.f bt643.1 bt643.2.1 bt643.2.2.1 bt643.2.2.2.1 bt643.2.2.2.2.1 bt643.2.2.2.2.2 a0_0 a0_1 a0_2 a0_3 a0_4 a0_5).bind fun t649 => ((cap_Clear.f a0_0 a0_1 a0_2 a0_3 a0_4 a0_5).bind fun bt650 => ((cap_Within.f bt650.1 bt650.2.1 bt650.2.2.1 bt650.2.2.2.1 bt650.2.2.2.2.1 bt650.2.2.2.2.2 a0_0 a0_1 a0_2 a0_3 a0_4 a0_5).bind fun t656 => ((cap_Within.f a0_0 a0_1 a0_2 a0_3 a0_4 a0_5 a0_0 a0_1 a0_2 a0_3 a0_4 a0_5).bind fun t657 => (if t614 = true then (if t622 = true then (if t629 = true then (if t642 = true then (if t649 = true then (if t656 = true then (some t657) else (some false)) else (some false)) else (some false)) else (some false)) else (some false)) else (some false)))))))))))) = some r := H
        have A15 := Aside0.mk A150
        clear A150
        replace H := Option.bind_eq_some_iff.mp H
        obtain ⟨⟨t623, t624, t625, t626, t627, t628⟩, A160, H⟩ := H
        replace H : ((cap_Within.f t623 t624 t625 t626 t627 t628 a0_0 a0_1 a0_2 a0_3 a0_4 a0_5).bind fun t629 => ((cap_Move.f a0_0 a0_1 a0_2 a0_3 a0_4 a0_5 a1).bind fun bt630 => ((cap_Bound.f bt630.1 bt630.2.1 bt630.2.2.1 bt630.2.2.2.1 bt630.2.2.2.2.1 bt630.2.2.2.2.2 (IntKind.u64.wrap (a2))).bind fun bt636 => ((cap_Within.f bt636.1 bt636.2.1 bt636.2.2.1 bt636.2.2.2.1 bt636.2.2.2.2.1 bt636.2.2.2.2.2 a0_0 a0_1 a0_2 a0_3 a0_4 a0_5).bind fun t642 => ((cap_And.f a0_0 a0_1 a0_2 a0_3 a0_4 a0_5 a2).bind fun bt643 => ((cap_Within.f bt643.1 bt643.2.1 bt643.2.2.1 bt643.2.2.2.1 bt643.2.2.2.2.1 bt643.2.2.2.2.2 a0_0 a0_1 a0_2 a0_3 a0_4 a0_5).bind fun t649 => ((cap_Clear.f a0_0 a0_1 a0_2 a0_3 a0_4 a0_5).bind fun bt650 => ((cap_Within.f bt650.1 bt650.2.1 bt650.2.2.1 bt650.2.2.2.1 bt650.2.2.2.2.1 bt650.2.2.2.2.2 a0_0 a0_1 a0_2 a0_3 a0_4 a0_5).bind fun t656 => ((cap_Within.f a0_0 a0_1 a0_2 a0_3 a0_4 a0_5 a0_0 a0_1 a0_2 a0_3 a0_4 a0_5).bind fun t657 => (if t614 = true then (if t622 = true then (if t629 = true then (if t642 = true then (if t649 = true then (if t656 = true then (some t657) else (some false)) else (some false)) else (some false)) else (some false)) else (some false)) else (some false))))))))))) = some r := H
        have A16 := Aside0.mk A160
        clear A160
        replace H := Option.bind_eq_some_iff.mp H
        obtain ⟨t629, A170, H⟩ := H
        replace H : ((cap_Move.f a0_0 a0_1 a0_2 a0_3 a0_4 a0_5 a1).bind fun bt630 => ((cap_Bound.f bt630.1 bt630.2.1 bt630.2.2.1 bt630.2.2.2.1 bt630.2.2.2.2.1 bt630.2.2.2.2.2 (IntKind.u64.wrap (a2))).bind fun bt636 => ((cap_Within.f bt636.1 bt636.2.1 bt636.2.2.1 bt636.2.2.2.1 bt636.2.2.2.2.1 bt636.2.2.2.2.2 a0_0 a0_1 a0_2 a0_3 a0_4 a0_5).bind fun t642 => ((cap_And.f a0_0 a0_1 a0_2 a0_3 a0_4 a0_5 a2).bind fun bt643 => ((cap_Within.f bt643.1 bt643.2.1 bt643.2.2.1 bt643.2.2.2.1 bt643.2.2.2.2.1 bt643.2.2.2.2.2 a0_0 a0_1 a0_2 a0_3 a0_4 a0_5).bind fun t649 => ((cap_Clear.f a0_0 a0_1 a0_2 a0_3 a0_4 a0_5).bind fun bt650 => ((cap_Within.f bt650.1 bt650.2.1 bt650.2.2.1 bt650.2.2.2.1 bt650.2.2.2.2.1 bt650.2.2.2.2.2 a0_0 a0_1 a0_2 a0_3 a0_4 a0_5).bind fun t656 => ((cap_Within.f a0_0 a0_1 a0_2 a0_3 a0_4 a0_5 a0_0 a0_1 a0_2 a0_3 a0_4 a0_5).bind fun t657 => (if t614 = true then (if t622 = true then (if t629 = true then (if t642 = true then (if t649 = true then (if t656 = true then (some t657) else (some false)) else (some false)) else (some false)) else (some false)) else (some false)) else (some false)))))))))) = some r := H
        have A17 := Aside0.mk A170
        clear A170
        replace H := Option.bind_eq_some_iff.mp H
        obtain ⟨⟨t630, t631, t632, t633, t634, t635⟩, A180, H⟩ := H
        replace H : ((cap_Bound.f t630 t631 t632 t633 t634 t635 (IntKind.u64.wrap (a2))).bind fun bt636 => ((cap_Within.f bt636.1 bt636.2.1 bt636.2.2.1 bt636.2.2.2.1 bt636.2.2.2.2.1 bt636.2.2.2.2.2 a0_0 a0_1 a0_2 a0_3 a0_4 a0_5).bind fun t642 => ((cap_And.f a0_0 a0_1 a0_2 a0_3 a0_4 a0_5 a2).bind fun bt643 => ((cap_Within.f bt643.1 bt643.2.1 bt643.2.2.1 bt643.2.2.2.1 bt643.2.2.2.2.1 bt643.2.2.2.2.2 a0_0 a0_1 a0_2 a0_3 a0_4 a0_5).bind fun t649 => ((cap_Clear.f a0_0 a0_1 a0_2 a0_3 a0_4 a0_5).bind fun bt650 => ((cap_Within.f bt650.1 bt650.2.1 bt650.2.2.1 bt650.2.2.2.1 bt650.2.2.2.2.1 bt650.2.2.2.2.2 a0_0 a0_1 a0_2 a0_3 a0_4 a0_5).bind fun t656 => ((cap_Within.f a0_0 a0_1 a0_2 a0_3 a0_4 a0_5 a0_0 a0_1 a0_2 a0_3 a0_4 a0_5).bind fun t657 => (if t614 = true then (if t622 = true then (if t629 = true then (if t642 = true then (if t649 = true then (if t656 = true then (some t657) else (some false)) else (some false)) else (some false)) else (some false)) else (some false)) else (some false))))))))) = some r := H
        have A18 := Aside0.mk A180
        clear A180
        replace H := Option.bind_eq_some_iff.mp H
        obtain ⟨⟨t636, t637, t638, t639, t640, t641⟩, A190, H⟩ := H
        replace H : ((cap_Within.f t636 t637 t638 t639 t640 t641 a0_0 a0_1 a0_2 a0_3 a0_4 a0_5).bind fun t642 => ((cap_And.f a0_0 a0_1 a0_2 a0_3 a0_4 a0_5 a2).bind fun bt643 => ((cap_Within.f bt643.1 bt643.2.1 bt643.2.2.1 bt643.2.2.2.1 bt643.2.2.2.2.1 bt643.2.2.2.2.2 a0_0 a0_1 a0_2 a0_3 a0_4 a0_5).bind fun t649 => ((cap_Clear.f a0_0 a0_1 a0_2 a0_3 a0_4 a0_5).bind fun bt650 => ((cap_Within.f bt650.1 bt650.2.1 bt650.2.2.1 bt650.2.2.2.1 bt650.2.2.2.2.1 bt650.2.2.2.2.2 a0_0 a0_1 a0_2 a0_3 a0_4 a0_5).bind fun t656 => ((cap_Within.f a0_0 a0_1 a0_2 a0_3 a0_4 a0_5 a0_0 a0_1 a0_2 a0_3 a0_4 a0_5).bind fun t657 => (if t614 = true then (if t622 = true then (if t629 = true then (if t642 = true then (if t649 = true then (if t656 = true then (some t657) else (some false)) else (some false)) else (some false)) else (some false)) else (some false)) else (some false)))))))) = some r := H
        have A19 := Aside0.mk A190
        clear A190
        replace H := Option.bind_eq_some_iff.mp H
        obtain ⟨t642, A200, H⟩ := H
        replace H : ((cap_And.f a0_0 a0_1 a0_2 a0_3 a0_4 a0_5 a2).bind fun bt643 => ((cap_Within.f bt643.1 bt643.2.1 bt643.2.2.1 bt643.2.2.2.1 bt643.2.2.2.2.1 bt643.2.2.2.2.2 a0_0 a0_1 a0_2 a0_3 a0_4 a0_5).bind fun t649 => ((cap_Clear.f a0_0 a0_1 a0_2 a0_3 a0_4 a0_5).bind fun bt650 => ((cap_Within.f bt650.1 bt650.2.1 bt650.2.2.1 bt650.2.2.2.1 bt650.2.2.2.2.1 bt650.2.2.2.2.2 a0_0 a0_1 a0_2 a0_3 a0_4 a0_5).bind fun t656 => ((cap_Within.f a0_0 a0_1 a0_2 a0_3 a0_4 a0_5 a0_0 a0_1 a0_2 a0_3 a0_4 a0_5).bind fun t657 => (if t614 = true then (if t622 = true then (if t629 = true then (if t642 = true then (if t649 = true then (if t656 = true then (some t657) else (some false)) else (some false)) else (some false)) else (some false)) else (some false)) else (some false))))))) = some r := H
        have A20 := Aside0.mk A200
        clear A200
        replace H := Option.bind_eq_some_iff.mp H
        obtain ⟨⟨t643, t644, t645, t646, t647, t648⟩, A210, H⟩ := H
        replace H : ((cap_Within.f t643 t644 t645 t646 t647 t648 a0_0 a0_1 a0_2 a0_3 a0_4 a0_5).bind fun t649 => ((cap_Clear.f a0_0 a0_1 a0_2 a0_3 a0_4 a0_5).bind fun bt650 => ((cap_Within.f bt650.1 bt650.2.1 bt650.2.2.1 bt650.2.2.2.1 bt650.2.2.2.2.1 bt650.2.2.2.2.2 a0_0 a0_1 a0_2 a0_3 a0_4 a0_5).bind fun t656 => ((cap_Within.f a0_0 a0_1 a0_2 a0_3 a0_4 a0_5 a0_0 a0_1 a0_2 a0_3 a0_4 a0_5).bind fun t657 => (if t614 = true then (if t622 = true then (if t629 = true then (if t642 = true then (if t649 = true then (if t656 = true then (some t657) else (some false)) else (some false)) else (some false)) else (some false)) else (some false)) else (some false)))))) = some r := H
        have A21 := Aside0.mk A210
        clear A210
        replace H := Option.bind_eq_some_iff.mp H
        obtain ⟨t649, A220, H⟩ := H
        replace H : ((cap_Clear.f a0_0 a0_1 a0_2 a0_3 a0_4 a0_5).bind fun bt650 => ((cap_Within.f bt650.1 bt650.2.1 bt650.2.2.1 bt650.2.2.2.1 bt650.2.2.2.2.1 bt650.2.2.2.2.2 a0_0 a0_1 a0_2 a0_3 a0_4 a0_5).bind fun t656 => ((cap_Within.f a0_0 a0_1 a0_2 a0_3 a0_4 a0_5 a0_0 a0_1 a0_2 a0_3 a0_4 a0_5).bind fun t657 => (if t614 = true then (if t622 = true then (if t629 = true then (if t642 = true then (if t649 = true then (if t656 = true then (some t657) else (some false)) else (some false)) else (some false)) else (some false)) else (some false)) else (some false))))) = some r := H
        have A22 := Aside0.mk A220
        clear A220
        replace H := Option.bind_eq_some_iff.mp H
        obtain ⟨⟨t650, t651, t652, t653, t654, t655⟩, A230, H⟩ := H
        replace H : ((cap_Within.f t650 t651 t652 t653 t654 t655 a0_0 a0_1 a0_2 a0_3 a0_4 a0_5).bind fun t656 => ((cap_Within.f a0_0 a0_1 a0_2 a0_3 a0_4 a0_5 a0_0 a0_1 a0_2 a0_3 a0_4 a0_5).bind fun t657 => (if t614 = true then (if t622 = true then (if t629 = true then (if t642 = true then (if t649 = true then (if t656 = true then (some t657) else (some false)) else (some false)) else (some false)) else (some false)) else (some false)) else (some false)))) = some r := H
        have A23 := Aside0.mk A230
        clear A230
        replace H := Option.bind_eq_some_iff.mp H
        obtain ⟨t656, A240, H⟩ := H
        replace H : ((cap_Within.f a0_0 a0_1 a0_2 a0_3 a0_4 a0_5 a0_0 a0_1 a0_2 a0_3 a0_4 a0_5).bind fun t657 => (if t614 = true then (if t622 = true then (if t629 = true then (if t642 = true then (if t649 = true then (if t656 = true then (some t657) else (some false)) else (some false)) else (some false)) else (some false)) else (some false)) else (some false))) = some r := H
        have A24 := Aside0.mk A240
        clear A240
        replace H := Option.bind_eq_some_iff.mp H
        obtain ⟨t657, A250, H⟩ := H
        replace H : (if t614 = true then (if t622 = true then (if t629 = true then (if t642 = true then (if t649 = true then (if t656 = true then (some t657) else (some false)) else (some false)) else (some false)) else (some false)) else (some false)) else (some false)) = some r := H
        have A25 := Aside0.mk A250
        clear A250
        by_cases c26 : t614 = true
        · subst c26
          have H1 : (if t622 = true then (if t629 = true then (if t642 = true then (if t649 = true then (if t656 = true then (some t657) else (some false)) else (some false)) else (some false)) else (some false)) else (some false)) = some r := by rw [if_pos rfl] at H; exact H
          clear H
          have H := H1
          clear H1
          by_cases c27 : t622 = true
          · subst c27
            have H1 : (if t629 = true then (if t642 = true then (if t649 = true then (if t656 = true then (some t657) else (some false)) else (some false)) else (some false)) else (some false)) = some r := by rw [if_pos rfl] at H; exact H
            clear H
            have H := H1
            clear H1
            by_cases c28 : t629 = true
            · subst c28
              have H1 : (if t642 = true then (if t649 = true then (if t656 = true then (some t657) else (some false)) else (some false)) else (some false)) = some r := by rw [if_pos rfl] at H; exact H
              clear H
              have H := H1
              clear H1
              by_cases c29 : t642 = true
              · subst c29
                have H1 : (if t649 = true then (if t656 = true then (some t657) else (some false)) else (some false)) = some r := by rw [if_pos rfl] at H; exact H
                clear H
                have H := H1
                clear H1
                by_cases c30 : t649 = true
                · subst c30
                  have H1 : (if t656 = true then (some t657) else (some false)) = some r := by rw [if_pos rfl] at H; exact H
                  clear H
                  have H := H1
                  clear H1
                  by_cases c31 : t656 = true
                  · subst c31
                    have H1 : (some t657) = some r := by rw [if_pos rfl] at H; exact H
                    clear H
                    have H := H1
                    clear H1
                    obtain rfl := Option.some.inj H
                    try go_wp2
                    have n0_ := Aside0.mk (blk_drew BK613.out)
                    have n1_ := Aside0.mk (below_drew1 HB.out)
                    clear BK613
                    clear HB
                    have BK613 := n0_
                    have HB := n1_
                    clear n0_ n1_
                    refine start_ (n := 6) (S := fun w' => w'.cell? ⟨gb613, 0, none⟩ = some (.int .u64 a0_0) ∧ w'.cell? ⟨gb613, 1, none⟩ = some (.int .u64 a0_1) ∧ w'.cell? ⟨gb613, 2, none⟩ = some (.int .u64 a0_2) ∧ w'.cell? ⟨gb613, 3, none⟩ = some (.int .i64 a0_3) ∧ w'.cell? ⟨gb613, 4, none⟩ = some (.int .i64 a0_4) ∧ w'.cell? ⟨gb613, 5, none⟩ = some (.bool a0_5)) (ds := []) #[false, false, false, false, false, false] (by kernel_rfl) rfl rfl ⟨(blk_cell BK613.out 0).trans rfl, (blk_cell BK613.out 1).trans rfl, (blk_cell BK613.out 2).trans rfl, (blk_cell BK613.out 3).trans rfl, (blk_cell BK613.out 4).trans rfl, (blk_cell BK613.out 5).trans rfl⟩ (fun hHeld => ?_)
                    generalize wc.drew = w32 at BK613 HB hHeld ⊢
                    refine pure_ (i := 1) (N := some 27) (v := ?_) (a' := ?_) #[false, true, false, false, false, false] rfl rfl (by kernel_rfl) (fun _ _ _ h => h) (Or.inl ⟨by rfl, ?_⟩) ?_ ?_
                    rotate_left
                    · intro w'
                      go_simp
                      with_reducible rfl
                    rotate_left
                    · simp only [Act.put, List.setIfInBounds_toArray, List.set_cons_zero, List.set_cons_succ, i64_w, i32_w]
                      rfl
                    refine take_ (i := 0) (N := some 26) (v := ?_) (a' := ?_) #[true, true, false, false, false, false] rfl rfl (by kernel_rfl) (fun _ _ _ h => h) (Or.inl ⟨by rfl, ?_⟩) hHeld ?_ ?_
                    rotate_left
                    · rintro w' ⟨s0, s1, s2, s3, s4, s5⟩
                      go_simp
                      with_reducible rfl
                    rotate_left
                    · simp only [Act.put, List.setIfInBounds_toArray, List.set_cons_zero, List.set_cons_succ, i64_w, i32_w]
                      rfl
                    refine take_ (i := 3) (N := some 29) (v := ?_) (a' := ?_) #[true, true, false, true, false, false] rfl rfl (by kernel_rfl) (fun _ _ _ h => h) (Or.inl ⟨by rfl, ?_⟩) hHeld ?_ ?_
                    rotate_left
                    · rintro w' ⟨s0, s1, s2, s3, s4, s5⟩
                      go_simp
                      with_reducible rfl
                    rotate_left
                    · simp only [Act.put, List.setIfInBounds_toArray, List.set_cons_zero, List.set_cons_succ, i64_w, i32_w]
                      rfl
                    refine one_ (i := 2) (N := some 28) #[true, true, true, true, false, false] rfl rfl (by kernel_rfl) (by decide) (fun K hK => ?_)
                    refine goes_ Tryd.func18 (by kernel_rfl) rfl #[.agg #[.int .u64 a0_0, .int .u64 a0_1, .int .u64 a0_2, .int .i64 a0_3, .int .i64 a0_4, .bool a0_5], .int .u64 a1] (by rfl) rfl rfl (by (try simp only [List.map_toArray, List.map_cons, List.map_nil]); first | done | rfl | (simp only [List.length_drop, List.length_take]; rfl)) ?_
                    with_reducible refine (cap_Move.calls a0_0 a0_1 a0_2 a0_3 a0_4 a0_5 a1 t616 t617 t618 t619 t620 t621 _ A14.out).mono ?_
                    rintro e w33 ⟨rfl, hb⟩
                    refine ⟨_, rfl, ?_⟩
                    have n0_ := Aside0.mk (blk_below (g := gb613) (o := .cells #[.int .u64 a0_0, .int .u64 a0_1, .int .u64 a0_2, .int .i64 a0_3, .int .i64 a0_4, .bool a0_5] 24 (0, 0)) (by (with_reducible repeat (first | refine blk_drewN ?_ _ | refine blk_drew ?_ | refine blk_alloc ?_ _)); exact BK613.out) hb)
                    have n1_ := Aside0.mk (below_step (by repeat (first | (with_reducible first | exact HB.out | apply below_alloc | apply pw_below_drewN | apply below_drew1 | refine below_set ?_ GE613.out) | exact HB.out)) hb)
                    clear BK613
                    clear HB
                    have BK613 := n0_
                    have HB := n1_
                    clear n0_ n1_
                    (try clear hb)
                    (try clear hb2)
                    (try clear hk)
                    (try clear hi)
                    refine hK.out _ _ ⟨(blk_cell BK613.out 0).trans rfl, (blk_cell BK613.out 1).trans rfl, (blk_cell BK613.out 2).trans rfl, (blk_cell BK613.out 3).trans rfl, (blk_cell BK613.out 4).trans rfl, (blk_cell BK613.out 5).trans rfl⟩ (fun hHeld => ?_)
                    clear hK K
                    refine norm_ (a' := ?_) ?_ ?_
                    rotate_left
                    · show Act.put _ (some 28) _ = _
                      simp only [Act.put, List.setIfInBounds_toArray, List.set_cons_zero, List.set_cons_succ, i64_w, i32_w]
                      rfl
                    refine one_ (i := 4) (N := some 30) #[true, true, true, true, true, false] rfl rfl (by kernel_rfl) (by decide) (fun K hK => ?_)
                    refine goes_ Tryd.func31 (by kernel_rfl) rfl #[.agg #[.int .u64 t616, .int .u64 t617, .int .u64 t618, .int .i64 t619, .int .i64 t620, .bool t621], .agg #[.int .u64 a0_0, .int .u64 a0_1, .int .u64 a0_2, .int .i64 a0_3, .int .i64 a0_4, .bool a0_5]] (by rfl) rfl rfl (by (try simp only [List.map_toArray, List.map_cons, List.map_nil]); first | done | rfl | (simp only [List.length_drop, List.length_take]; rfl)) ?_
                    with_reducible refine (cap_Within.calls t616 t617 t618 t619 t620 t621 a0_0 a0_1 a0_2 a0_3 a0_4 a0_5 true _ A15.out).mono ?_
                    rintro e w34 ⟨rfl, hb⟩
                    refine ⟨_, rfl, ?_⟩
                    have n0_ := Aside0.mk (blk_below (g := gb613) (o := .cells #[.int .u64 a0_0, .int .u64 a0_1, .int .u64 a0_2, .int .i64 a0_3, .int .i64 a0_4, .bool a0_5] 24 (0, 0)) (by (with_reducible repeat (first | refine blk_drewN ?_ _ | refine blk_drew ?_ | refine blk_alloc ?_ _)); exact BK613.out) hb)
                    have n1_ := Aside0.mk (below_step (by repeat (first | (with_reducible first | exact HB.out | apply below_alloc | apply pw_below_drewN | apply below_drew1 | refine below_set ?_ GE613.out) | exact HB.out)) hb)
                    clear BK613
                    clear HB
                    have BK613 := n0_
                    have HB := n1_
                    clear n0_ n1_
                    (try clear hb)
                    (try clear hb2)
                    (try clear hk)
                    (try clear hi)
                    refine hK.out _ _ ⟨(blk_cell BK613.out 0).trans rfl, (blk_cell BK613.out 1).trans rfl, (blk_cell BK613.out 2).trans rfl, (blk_cell BK613.out 3).trans rfl, (blk_cell BK613.out 4).trans rfl, (blk_cell BK613.out 5).trans rfl⟩ (fun hHeld => ?_)
                    clear hK K
                    refine norm_ (a' := ?_) ?_ ?_
                    rotate_left
                    · show Act.put _ (some 30) _ = _
                      simp only [Act.put, List.setIfInBounds_toArray, List.set_cons_zero, List.set_cons_succ, i64_w, i32_w]
                      rfl
                    refine pure_ (i := 5) (N := some 9) (v := ?_) (a' := ?_) #[true, true, true, true, true, true] rfl rfl (by kernel_rfl) (fun _ _ _ h => h) (Or.inl ⟨by rfl, ?_⟩) ?_ ?_
                    rotate_left
                    · intro w'
                      go_simp
                      with_reducible rfl
                    rotate_left
                    · simp only [Act.put, List.setIfInBounds_toArray, List.set_cons_zero, List.set_cons_succ, i64_w, i32_w]
                      rfl
                    refine done_ (by kernel_rfl) ?_
                    try go_wp2
                    have n0_ := Aside0.mk (blk_drew BK613.out)
                    have n1_ := Aside0.mk (below_drew1 HB.out)
                    clear BK613
                    clear HB
                    have BK613 := n0_
                    have HB := n1_
                    clear n0_ n1_
                    refine start_ (n := 6) (S := fun w' => w'.cell? ⟨gb613, 0, none⟩ = some (.int .u64 a0_0) ∧ w'.cell? ⟨gb613, 1, none⟩ = some (.int .u64 a0_1) ∧ w'.cell? ⟨gb613, 2, none⟩ = some (.int .u64 a0_2) ∧ w'.cell? ⟨gb613, 3, none⟩ = some (.int .i64 a0_3) ∧ w'.cell? ⟨gb613, 4, none⟩ = some (.int .i64 a0_4) ∧ w'.cell? ⟨gb613, 5, none⟩ = some (.bool a0_5)) (ds := []) #[false, false, false, false, false, false] (by kernel_rfl) rfl rfl ⟨(blk_cell BK613.out 0).trans rfl, (blk_cell BK613.out 1).trans rfl, (blk_cell BK613.out 2).trans rfl, (blk_cell BK613.out 3).trans rfl, (blk_cell BK613.out 4).trans rfl, (blk_cell BK613.out 5).trans rfl⟩ (fun hHeld => ?_)
                    generalize w34.drew = w35 at BK613 HB hHeld ⊢
                    refine pure_ (i := 1) (N := some 32) (v := ?_) (a' := ?_) #[false, true, false, false, false, false] rfl rfl (by kernel_rfl) (fun _ _ _ h => h) (Or.inl ⟨by rfl, ?_⟩) ?_ ?_
                    rotate_left
                    · intro w'
                      go_simp
                      with_reducible rfl
                    rotate_left
                    · simp only [Act.put, List.setIfInBounds_toArray, List.set_cons_zero, List.set_cons_succ, i64_w, i32_w]
                      rfl
                    refine take_ (i := 0) (N := some 31) (v := ?_) (a' := ?_) #[true, true, false, false, false, false] rfl rfl (by kernel_rfl) (fun _ _ _ h => h) (Or.inl ⟨by rfl, ?_⟩) hHeld ?_ ?_
                    rotate_left
                    · rintro w' ⟨s0, s1, s2, s3, s4, s5⟩
                      go_simp
                      with_reducible rfl
                    rotate_left
                    · simp only [Act.put, List.setIfInBounds_toArray, List.set_cons_zero, List.set_cons_succ, i64_w, i32_w]
                      rfl
                    refine take_ (i := 3) (N := some 34) (v := ?_) (a' := ?_) #[true, true, false, true, false, false] rfl rfl (by kernel_rfl) (fun _ _ _ h => h) (Or.inl ⟨by rfl, ?_⟩) hHeld ?_ ?_
                    rotate_left
                    · rintro w' ⟨s0, s1, s2, s3, s4, s5⟩
                      go_simp
                      with_reducible rfl
                    rotate_left
                    · simp only [Act.put, List.setIfInBounds_toArray, List.set_cons_zero, List.set_cons_succ, i64_w, i32_w]
                      rfl
                    refine one_ (i := 2) (N := some 33) #[true, true, true, true, false, false] rfl rfl (by kernel_rfl) (by decide) (fun K hK => ?_)
                    refine goes_ Tryd.func19 (by kernel_rfl) rfl #[.agg #[.int .u64 a0_0, .int .u64 a0_1, .int .u64 a0_2, .int .i64 a0_3, .int .i64 a0_4, .bool a0_5], .int .u64 a1] (by rfl) rfl rfl (by (try simp only [List.map_toArray, List.map_cons, List.map_nil]); first | done | rfl | (simp only [List.length_drop, List.length_take]; rfl)) ?_
                    with_reducible refine (cap_Bound.calls a0_0 a0_1 a0_2 a0_3 a0_4 a0_5 a1 t623 t624 t625 t626 t627 t628 _ A16.out).mono ?_
                    rintro e w36 ⟨rfl, hb⟩
                    refine ⟨_, rfl, ?_⟩
                    have n0_ := Aside0.mk (blk_below (g := gb613) (o := .cells #[.int .u64 a0_0, .int .u64 a0_1, .int .u64 a0_2, .int .i64 a0_3, .int .i64 a0_4, .bool a0_5] 24 (0, 0)) (by (with_reducible repeat (first | refine blk_drewN ?_ _ | refine blk_drew ?_ | refine blk_alloc ?_ _)); exact BK613.out) hb)
                    have n1_ := Aside0.mk (below_step (by repeat (first | (with_reducible first | exact HB.out | apply below_alloc | apply pw_below_drewN | apply below_drew1 | refine below_set ?_ GE613.out) | exact HB.out)) hb)
                    clear BK613
                    clear HB
                    have BK613 := n0_
                    have HB := n1_
                    clear n0_ n1_
                    (try clear hb)
                    (try clear hb2)
                    (try clear hk)
                    (try clear hi)
                    refine hK.out _ _ ⟨(blk_cell BK613.out 0).trans rfl, (blk_cell BK613.out 1).trans rfl, (blk_cell BK613.out 2).trans rfl, (blk_cell BK613.out 3).trans rfl, (blk_cell BK613.out 4).trans rfl, (blk_cell BK613.out 5).trans rfl⟩ (fun hHeld => ?_)
                    clear hK K
                    refine norm_ (a' := ?_) ?_ ?_
                    rotate_left
                    · show Act.put _ (some 33) _ = _
                      simp only [Act.put, List.setIfInBounds_toArray, List.set_cons_zero, List.set_cons_succ, i64_w, i32_w]
                      rfl
                    refine one_ (i := 4) (N := some 35) #[true, true, true, true, true, false] rfl rfl (by kernel_rfl) (by decide) (fun K hK => ?_)
                    refine goes_ Tryd.func31 (by kernel_rfl) rfl #[.agg #[.int .u64 t623, .int .u64 t624, .int .u64 t625, .int .i64 t626, .int .i64 t627, .bool t628], .agg #[.int .u64 a0_0, .int .u64 a0_1, .int .u64 a0_2, .int .i64 a0_3, .int .i64 a0_4, .bool a0_5]] (by rfl) rfl rfl (by (try simp only [List.map_toArray, List.map_cons, List.map_nil]); first | done | rfl | (simp only [List.length_drop, List.length_take]; rfl)) ?_
                    with_reducible refine (cap_Within.calls t623 t624 t625 t626 t627 t628 a0_0 a0_1 a0_2 a0_3 a0_4 a0_5 true _ A17.out).mono ?_
                    rintro e w37 ⟨rfl, hb⟩
                    refine ⟨_, rfl, ?_⟩
                    have n0_ := Aside0.mk (blk_below (g := gb613) (o := .cells #[.int .u64 a0_0, .int .u64 a0_1, .int .u64 a0_2, .int .i64 a0_3, .int .i64 a0_4, .bool a0_5] 24 (0, 0)) (by (with_reducible repeat (first | refine blk_drewN ?_ _ | refine blk_drew ?_ | refine blk_alloc ?_ _)); exact BK613.out) hb)
                    have n1_ := Aside0.mk (below_step (by repeat (first | (with_reducible first | exact HB.out | apply below_alloc | apply pw_below_drewN | apply below_drew1 | refine below_set ?_ GE613.out) | exact HB.out)) hb)
                    clear BK613
                    clear HB
                    have BK613 := n0_
                    have HB := n1_
                    clear n0_ n1_
                    (try clear hb)
                    (try clear hb2)
                    (try clear hk)
                    (try clear hi)
                    refine hK.out _ _ ⟨(blk_cell BK613.out 0).trans rfl, (blk_cell BK613.out 1).trans rfl, (blk_cell BK613.out 2).trans rfl, (blk_cell BK613.out 3).trans rfl, (blk_cell BK613.out 4).trans rfl, (blk_cell BK613.out 5).trans rfl⟩ (fun hHeld => ?_)
                    clear hK K
                    refine norm_ (a' := ?_) ?_ ?_
                    rotate_left
                    · show Act.put _ (some 35) _ = _
                      simp only [Act.put, List.setIfInBounds_toArray, List.set_cons_zero, List.set_cons_succ, i64_w, i32_w]
                      rfl
                    refine pure_ (i := 5) (N := some 10) (v := ?_) (a' := ?_) #[true, true, true, true, true, true] rfl rfl (by kernel_rfl) (fun _ _ _ h => h) (Or.inl ⟨by rfl, ?_⟩) ?_ ?_
                    rotate_left
                    · intro w'
                      go_simp
                      with_reducible rfl
                    rotate_left
                    · simp only [Act.put, List.setIfInBounds_toArray, List.set_cons_zero, List.set_cons_succ, i64_w, i32_w]
                      rfl
                    refine done_ (by kernel_rfl) ?_
                    try go_wp2
                    have n0_ := Aside0.mk (blk_drew BK613.out)
                    have n1_ := Aside0.mk (below_drew1 HB.out)
                    clear BK613
                    clear HB
                    have BK613 := n0_
                    have HB := n1_
                    clear n0_ n1_
                    refine start_ (n := 9) (S := fun w' => w'.cell? ⟨gb613, 0, none⟩ = some (.int .u64 a0_0) ∧ w'.cell? ⟨gb613, 1, none⟩ = some (.int .u64 a0_1) ∧ w'.cell? ⟨gb613, 2, none⟩ = some (.int .u64 a0_2) ∧ w'.cell? ⟨gb613, 3, none⟩ = some (.int .i64 a0_3) ∧ w'.cell? ⟨gb613, 4, none⟩ = some (.int .i64 a0_4) ∧ w'.cell? ⟨gb613, 5, none⟩ = some (.bool a0_5)) (ds := []) #[false, false, false, false, false, false, false, false, false] (by kernel_rfl) rfl rfl ⟨(blk_cell BK613.out 0).trans rfl, (blk_cell BK613.out 1).trans rfl, (blk_cell BK613.out 2).trans rfl, (blk_cell BK613.out 3).trans rfl, (blk_cell BK613.out 4).trans rfl, (blk_cell BK613.out 5).trans rfl⟩ (fun hHeld => ?_); refine with_tabW curtilagelaw02_CapLess.tab7 curtilagelaw02_CapLess.bits7 (fun HT_ HW_ => ?_)
                    generalize w37.drew = w38 at BK613 HB hHeld ⊢
                    refine pure_ (i := 1) (N := some 37) (v := ?_) (a' := ?_) #[false, true, false, false, false, false, false, false, false] rfl rfl (any_of HT_.out (by kernel_rfl)) (fun _ _ _ h => h) (Or.inl ⟨by rfl, ?_⟩) ?_ ?_
                    rotate_left
                    · intro w'
                      go_simp
                      with_reducible rfl
                    rotate_left
                    · simp only [Act.put, List.setIfInBounds_toArray, List.set_cons_zero, List.set_cons_succ, i64_w, i32_w]
                      rfl
                    refine pure_ (i := 3) (N := some 39) (v := ?_) (a' := ?_) #[false, true, false, true, false, false, false, false, false] rfl rfl (any_of HT_.out (by kernel_rfl)) (fun _ _ _ h => h) (Or.inl ⟨by rfl, ?_⟩) ?_ ?_
                    rotate_left
                    · intro w'
                      go_simp
                      with_reducible rfl
                    rotate_left
                    · simp only [Act.put, List.setIfInBounds_toArray, List.set_cons_zero, List.set_cons_succ, i64_w, i32_w]
                      rfl
                    refine pure_ (i := 4) (N := some 40) (v := ?_) (a' := ?_) #[false, true, false, true, true, false, false, false, false] rfl rfl (any_of HT_.out (by kernel_rfl)) (fun _ _ _ h => h) (Or.inl ⟨by rfl, ?_⟩) ?_ ?_
                    rotate_left
                    · intro w'
                      go_simp
                      with_reducible rfl
                    rotate_left
                    · simp only [Act.put, List.setIfInBounds_toArray, List.set_cons_zero, List.set_cons_succ, i64_w, i32_w]
                      rfl
                    refine take_ (i := 0) (N := some 36) (v := ?_) (a' := ?_) #[true, true, false, true, true, false, false, false, false] rfl rfl (take_ofW HT_.out HW_.out (by kernel_rfl)) (fun _ _ _ h => h) (Or.inl ⟨by rfl, ?_⟩) hHeld ?_ ?_
                    rotate_left
                    · rintro w' ⟨s0, s1, s2, s3, s4, s5⟩
                      go_simp
                      with_reducible rfl
                    rotate_left
                    · simp only [Act.put, List.setIfInBounds_toArray, List.set_cons_zero, List.set_cons_succ, i64_w, i32_w]
                      rfl
                    refine take_ (i := 6) (N := some 42) (v := ?_) (a' := ?_) #[true, true, false, true, true, false, true, false, false] rfl rfl (take_ofW HT_.out HW_.out (by kernel_rfl)) (fun _ _ _ h => h) (Or.inl ⟨by rfl, ?_⟩) hHeld ?_ ?_
                    rotate_left
                    · rintro w' ⟨s0, s1, s2, s3, s4, s5⟩
                      go_simp
                      with_reducible rfl
                    rotate_left
                    · simp only [Act.put, List.setIfInBounds_toArray, List.set_cons_zero, List.set_cons_succ, i64_w, i32_w]
                      rfl
                    refine one_ (i := 2) (N := some 38) #[true, true, true, true, true, false, true, false, false] rfl rfl (one_of HT_.out (by kernel_rfl)) (by decide) (fun K hK => ?_)
                    refine goes_ Tryd.func18 (by kernel_rfl) rfl #[.agg #[.int .u64 a0_0, .int .u64 a0_1, .int .u64 a0_2, .int .i64 a0_3, .int .i64 a0_4, .bool a0_5], .int .u64 a1] (by rfl) rfl rfl (by (try simp only [List.map_toArray, List.map_cons, List.map_nil]); first | done | rfl | (simp only [List.length_drop, List.length_take]; rfl)) ?_
                    with_reducible refine (cap_Move.calls a0_0 a0_1 a0_2 a0_3 a0_4 a0_5 a1 t630 t631 t632 t633 t634 t635 _ A18.out).mono ?_
                    rintro e w39 ⟨rfl, hb⟩
                    refine ⟨_, rfl, ?_⟩
                    have n0_ := Aside0.mk (blk_below (g := gb613) (o := .cells #[.int .u64 a0_0, .int .u64 a0_1, .int .u64 a0_2, .int .i64 a0_3, .int .i64 a0_4, .bool a0_5] 24 (0, 0)) (by (with_reducible repeat (first | refine blk_drewN ?_ _ | refine blk_drew ?_ | refine blk_alloc ?_ _)); exact BK613.out) hb)
                    have n1_ := Aside0.mk (below_step (by repeat (first | (with_reducible first | exact HB.out | apply below_alloc | apply pw_below_drewN | apply below_drew1 | refine below_set ?_ GE613.out) | exact HB.out)) hb)
                    clear BK613
                    clear HB
                    have BK613 := n0_
                    have HB := n1_
                    clear n0_ n1_
                    (try clear hb)
                    (try clear hb2)
                    (try clear hk)
                    (try clear hi)
                    refine hK.out _ _ ⟨(blk_cell BK613.out 0).trans rfl, (blk_cell BK613.out 1).trans rfl, (blk_cell BK613.out 2).trans rfl, (blk_cell BK613.out 3).trans rfl, (blk_cell BK613.out 4).trans rfl, (blk_cell BK613.out 5).trans rfl⟩ (fun hHeld => ?_)
                    clear hK K
                    refine norm_ (a' := ?_) ?_ ?_
                    rotate_left
                    · show Act.put _ (some 38) _ = _
                      simp only [Act.put, List.setIfInBounds_toArray, List.set_cons_zero, List.set_cons_succ, i64_w, i32_w]
                      rfl
                    refine one_ (i := 5) (N := some 41) #[true, true, true, true, true, true, true, false, false] rfl rfl (one_of HT_.out (by kernel_rfl)) (by decide) (fun K hK => ?_)
                    refine goes_ Tryd.func19 (by kernel_rfl) rfl #[.agg #[.int .u64 t630, .int .u64 t631, .int .u64 t632, .int .i64 t633, .int .i64 t634, .bool t635], .int .u64 (IntKind.u64.wrap (a2))] (by rfl) rfl rfl (by (try simp only [List.map_toArray, List.map_cons, List.map_nil]); first | done | rfl | (simp only [List.length_drop, List.length_take]; rfl)) ?_
                    with_reducible refine (cap_Bound.calls t630 t631 t632 t633 t634 t635 (IntKind.u64.wrap (a2)) t636 t637 t638 t639 t640 t641 _ A19.out).mono ?_
                    rintro e w40 ⟨rfl, hb⟩
                    refine ⟨_, rfl, ?_⟩
                    have n0_ := Aside0.mk (blk_below (g := gb613) (o := .cells #[.int .u64 a0_0, .int .u64 a0_1, .int .u64 a0_2, .int .i64 a0_3, .int .i64 a0_4, .bool a0_5] 24 (0, 0)) (by (with_reducible repeat (first | refine blk_drewN ?_ _ | refine blk_drew ?_ | refine blk_alloc ?_ _)); exact BK613.out) hb)
                    have n1_ := Aside0.mk (below_step (by repeat (first | (with_reducible first | exact HB.out | apply below_alloc | apply pw_below_drewN | apply below_drew1 | refine below_set ?_ GE613.out) | exact HB.out)) hb)
                    clear BK613
                    clear HB
                    have BK613 := n0_
                    have HB := n1_
                    clear n0_ n1_
                    (try clear hb)
                    (try clear hb2)
                    (try clear hk)
                    (try clear hi)
                    refine hK.out _ _ ⟨(blk_cell BK613.out 0).trans rfl, (blk_cell BK613.out 1).trans rfl, (blk_cell BK613.out 2).trans rfl, (blk_cell BK613.out 3).trans rfl, (blk_cell BK613.out 4).trans rfl, (blk_cell BK613.out 5).trans rfl⟩ (fun hHeld => ?_)
                    clear hK K
                    refine norm_ (a' := ?_) ?_ ?_
                    rotate_left
                    · show Act.put _ (some 41) _ = _
                      simp only [Act.put, List.setIfInBounds_toArray, List.set_cons_zero, List.set_cons_succ, i64_w, i32_w]
                      rfl
                    refine one_ (i := 7) (N := some 43) #[true, true, true, true, true, true, true, true, false] rfl rfl (one_of HT_.out (by kernel_rfl)) (by decide) (fun K hK => ?_)
                    refine goes_ Tryd.func31 (by kernel_rfl) rfl #[.agg #[.int .u64 t636, .int .u64 t637, .int .u64 t638, .int .i64 t639, .int .i64 t640, .bool t641], .agg #[.int .u64 a0_0, .int .u64 a0_1, .int .u64 a0_2, .int .i64 a0_3, .int .i64 a0_4, .bool a0_5]] (by rfl) rfl rfl (by (try simp only [List.map_toArray, List.map_cons, List.map_nil]); first | done | rfl | (simp only [List.length_drop, List.length_take]; rfl)) ?_
                    with_reducible refine (cap_Within.calls t636 t637 t638 t639 t640 t641 a0_0 a0_1 a0_2 a0_3 a0_4 a0_5 true _ A20.out).mono ?_
                    rintro e w41 ⟨rfl, hb⟩
                    refine ⟨_, rfl, ?_⟩
                    have n0_ := Aside0.mk (blk_below (g := gb613) (o := .cells #[.int .u64 a0_0, .int .u64 a0_1, .int .u64 a0_2, .int .i64 a0_3, .int .i64 a0_4, .bool a0_5] 24 (0, 0)) (by (with_reducible repeat (first | refine blk_drewN ?_ _ | refine blk_drew ?_ | refine blk_alloc ?_ _)); exact BK613.out) hb)
                    have n1_ := Aside0.mk (below_step (by repeat (first | (with_reducible first | exact HB.out | apply below_alloc | apply pw_below_drewN | apply below_drew1 | refine below_set ?_ GE613.out) | exact HB.out)) hb)
                    clear BK613
                    clear HB
                    have BK613 := n0_
                    have HB := n1_
                    clear n0_ n1_
                    (try clear hb)
                    (try clear hb2)
                    (try clear hk)
                    (try clear hi)
                    refine hK.out _ _ ⟨(blk_cell BK613.out 0).trans rfl, (blk_cell BK613.out 1).trans rfl, (blk_cell BK613.out 2).trans rfl, (blk_cell BK613.out 3).trans rfl, (blk_cell BK613.out 4).trans rfl, (blk_cell BK613.out 5).trans rfl⟩ (fun hHeld => ?_)
                    clear hK K
                    refine norm_ (a' := ?_) ?_ ?_
                    rotate_left
                    · show Act.put _ (some 43) _ = _
                      simp only [Act.put, List.setIfInBounds_toArray, List.set_cons_zero, List.set_cons_succ, i64_w, i32_w]
                      rfl
                    refine pure_ (i := 8) (N := some 11) (v := ?_) (a' := ?_) #[true, true, true, true, true, true, true, true, true] rfl rfl (any_of HT_.out (by kernel_rfl)) (fun _ _ _ h => h) (Or.inl ⟨by rfl, ?_⟩) ?_ ?_
                    rotate_left
                    · intro w'
                      go_simp
                      with_reducible rfl
                    rotate_left
                    · simp only [Act.put, List.setIfInBounds_toArray, List.set_cons_zero, List.set_cons_succ, i64_w, i32_w]
                      rfl
                    refine done_ (done_of HT_.out (by kernel_rfl)) ?_
                    try go_wp2
                    have n0_ := Aside0.mk (blk_drew BK613.out)
                    have n1_ := Aside0.mk (below_drew1 HB.out)
                    clear BK613
                    clear HB
                    have BK613 := n0_
                    have HB := n1_
                    clear n0_ n1_
                    refine start_ (n := 6) (S := fun w' => w'.cell? ⟨gb613, 0, none⟩ = some (.int .u64 a0_0) ∧ w'.cell? ⟨gb613, 1, none⟩ = some (.int .u64 a0_1) ∧ w'.cell? ⟨gb613, 2, none⟩ = some (.int .u64 a0_2) ∧ w'.cell? ⟨gb613, 3, none⟩ = some (.int .i64 a0_3) ∧ w'.cell? ⟨gb613, 4, none⟩ = some (.int .i64 a0_4) ∧ w'.cell? ⟨gb613, 5, none⟩ = some (.bool a0_5)) (ds := []) #[false, false, false, false, false, false] (by kernel_rfl) rfl rfl ⟨(blk_cell BK613.out 0).trans rfl, (blk_cell BK613.out 1).trans rfl, (blk_cell BK613.out 2).trans rfl, (blk_cell BK613.out 3).trans rfl, (blk_cell BK613.out 4).trans rfl, (blk_cell BK613.out 5).trans rfl⟩ (fun hHeld => ?_)
                    generalize w41.drew = w42 at BK613 HB hHeld ⊢
                    refine pure_ (i := 1) (N := some 45) (v := ?_) (a' := ?_) #[false, true, false, false, false, false] rfl rfl (by kernel_rfl) (fun _ _ _ h => h) (Or.inl ⟨by rfl, ?_⟩) ?_ ?_
                    rotate_left
                    · intro w'
                      go_simp
                      with_reducible rfl
                    rotate_left
                    · simp only [Act.put, List.setIfInBounds_toArray, List.set_cons_zero, List.set_cons_succ, i64_w, i32_w]
                      rfl
                    refine take_ (i := 0) (N := some 44) (v := ?_) (a' := ?_) #[true, true, false, false, false, false] rfl rfl (by kernel_rfl) (fun _ _ _ h => h) (Or.inl ⟨by rfl, ?_⟩) hHeld ?_ ?_
                    rotate_left
                    · rintro w' ⟨s0, s1, s2, s3, s4, s5⟩
                      go_simp
                      with_reducible rfl
                    rotate_left
                    · simp only [Act.put, List.setIfInBounds_toArray, List.set_cons_zero, List.set_cons_succ, i64_w, i32_w]
                      rfl
                    refine take_ (i := 3) (N := some 47) (v := ?_) (a' := ?_) #[true, true, false, true, false, false] rfl rfl (by kernel_rfl) (fun _ _ _ h => h) (Or.inl ⟨by rfl, ?_⟩) hHeld ?_ ?_
                    rotate_left
                    · rintro w' ⟨s0, s1, s2, s3, s4, s5⟩
                      go_simp
                      with_reducible rfl
                    rotate_left
                    · simp only [Act.put, List.setIfInBounds_toArray, List.set_cons_zero, List.set_cons_succ, i64_w, i32_w]
                      rfl
                    refine one_ (i := 2) (N := some 46) #[true, true, true, true, false, false] rfl rfl (by kernel_rfl) (by decide) (fun K hK => ?_)
                    refine goes_ Tryd.func20 (by kernel_rfl) rfl #[.agg #[.int .u64 a0_0, .int .u64 a0_1, .int .u64 a0_2, .int .i64 a0_3, .int .i64 a0_4, .bool a0_5], .int .i64 a2] (by rfl) rfl rfl (by (try simp only [List.map_toArray, List.map_cons, List.map_nil]); first | done | rfl | (simp only [List.length_drop, List.length_take]; rfl)) ?_
                    with_reducible refine (cap_And.calls a0_0 a0_1 a0_2 a0_3 a0_4 a0_5 a2 t643 t644 t645 t646 t647 t648 _ A21.out).mono ?_
                    rintro e w43 ⟨rfl, hb⟩
                    refine ⟨_, rfl, ?_⟩
                    have n0_ := Aside0.mk (blk_below (g := gb613) (o := .cells #[.int .u64 a0_0, .int .u64 a0_1, .int .u64 a0_2, .int .i64 a0_3, .int .i64 a0_4, .bool a0_5] 24 (0, 0)) (by (with_reducible repeat (first | refine blk_drewN ?_ _ | refine blk_drew ?_ | refine blk_alloc ?_ _)); exact BK613.out) hb)
                    have n1_ := Aside0.mk (below_step (by repeat (first | (with_reducible first | exact HB.out | apply below_alloc | apply pw_below_drewN | apply below_drew1 | refine below_set ?_ GE613.out) | exact HB.out)) hb)
                    clear BK613
                    clear HB
                    have BK613 := n0_
                    have HB := n1_
                    clear n0_ n1_
                    (try clear hb)
                    (try clear hb2)
                    (try clear hk)
                    (try clear hi)
                    refine hK.out _ _ ⟨(blk_cell BK613.out 0).trans rfl, (blk_cell BK613.out 1).trans rfl, (blk_cell BK613.out 2).trans rfl, (blk_cell BK613.out 3).trans rfl, (blk_cell BK613.out 4).trans rfl, (blk_cell BK613.out 5).trans rfl⟩ (fun hHeld => ?_)
                    clear hK K
                    refine norm_ (a' := ?_) ?_ ?_
                    rotate_left
                    · show Act.put _ (some 46) _ = _
                      simp only [Act.put, List.setIfInBounds_toArray, List.set_cons_zero, List.set_cons_succ, i64_w, i32_w]
                      rfl
                    refine one_ (i := 4) (N := some 48) #[true, true, true, true, true, false] rfl rfl (by kernel_rfl) (by decide) (fun K hK => ?_)
                    refine goes_ Tryd.func31 (by kernel_rfl) rfl #[.agg #[.int .u64 t643, .int .u64 t644, .int .u64 t645, .int .i64 t646, .int .i64 t647, .bool t648], .agg #[.int .u64 a0_0, .int .u64 a0_1, .int .u64 a0_2, .int .i64 a0_3, .int .i64 a0_4, .bool a0_5]] (by rfl) rfl rfl (by (try simp only [List.map_toArray, List.map_cons, List.map_nil]); first | done | rfl | (simp only [List.length_drop, List.length_take]; rfl)) ?_
                    with_reducible refine (cap_Within.calls t643 t644 t645 t646 t647 t648 a0_0 a0_1 a0_2 a0_3 a0_4 a0_5 true _ A22.out).mono ?_
                    rintro e w44 ⟨rfl, hb⟩
                    refine ⟨_, rfl, ?_⟩
                    have n0_ := Aside0.mk (blk_below (g := gb613) (o := .cells #[.int .u64 a0_0, .int .u64 a0_1, .int .u64 a0_2, .int .i64 a0_3, .int .i64 a0_4, .bool a0_5] 24 (0, 0)) (by (with_reducible repeat (first | refine blk_drewN ?_ _ | refine blk_drew ?_ | refine blk_alloc ?_ _)); exact BK613.out) hb)
                    have n1_ := Aside0.mk (below_step (by repeat (first | (with_reducible first | exact HB.out | apply below_alloc | apply pw_below_drewN | apply below_drew1 | refine below_set ?_ GE613.out) | exact HB.out)) hb)
                    clear BK613
                    clear HB
                    have BK613 := n0_
                    have HB := n1_
                    clear n0_ n1_
                    (try clear hb)
                    (try clear hb2)
                    (try clear hk)
                    (try clear hi)
                    refine hK.out _ _ ⟨(blk_cell BK613.out 0).trans rfl, (blk_cell BK613.out 1).trans rfl, (blk_cell BK613.out 2).trans rfl, (blk_cell BK613.out 3).trans rfl, (blk_cell BK613.out 4).trans rfl, (blk_cell BK613.out 5).trans rfl⟩ (fun hHeld => ?_)
                    clear hK K
                    refine norm_ (a' := ?_) ?_ ?_
                    rotate_left
                    · show Act.put _ (some 48) _ = _
                      simp only [Act.put, List.setIfInBounds_toArray, List.set_cons_zero, List.set_cons_succ, i64_w, i32_w]
                      rfl
                    refine pure_ (i := 5) (N := some 12) (v := ?_) (a' := ?_) #[true, true, true, true, true, true] rfl rfl (by kernel_rfl) (fun _ _ _ h => h) (Or.inl ⟨by rfl, ?_⟩) ?_ ?_
                    rotate_left
                    · intro w'
                      go_simp
                      with_reducible rfl
                    rotate_left
                    · simp only [Act.put, List.setIfInBounds_toArray, List.set_cons_zero, List.set_cons_succ, i64_w, i32_w]
                      rfl
                    refine done_ (by kernel_rfl) ?_
                    try go_wp2
                    have n0_ := Aside0.mk (blk_drew BK613.out)
                    have n1_ := Aside0.mk (below_drew1 HB.out)
                    clear BK613
                    clear HB
                    have BK613 := n0_
                    have HB := n1_
                    clear n0_ n1_
                    refine start_ (n := 5) (S := fun w' => w'.cell? ⟨gb613, 0, none⟩ = some (.int .u64 a0_0) ∧ w'.cell? ⟨gb613, 1, none⟩ = some (.int .u64 a0_1) ∧ w'.cell? ⟨gb613, 2, none⟩ = some (.int .u64 a0_2) ∧ w'.cell? ⟨gb613, 3, none⟩ = some (.int .i64 a0_3) ∧ w'.cell? ⟨gb613, 4, none⟩ = some (.int .i64 a0_4) ∧ w'.cell? ⟨gb613, 5, none⟩ = some (.bool a0_5)) (ds := []) #[false, false, false, false, false] (by kernel_rfl) rfl rfl ⟨(blk_cell BK613.out 0).trans rfl, (blk_cell BK613.out 1).trans rfl, (blk_cell BK613.out 2).trans rfl, (blk_cell BK613.out 3).trans rfl, (blk_cell BK613.out 4).trans rfl, (blk_cell BK613.out 5).trans rfl⟩ (fun hHeld => ?_)
                    generalize w44.drew = w45 at BK613 HB hHeld ⊢
                    refine take_ (i := 0) (N := some 49) (v := ?_) (a' := ?_) #[true, false, false, false, false] rfl rfl (by kernel_rfl) (fun _ _ _ h => h) (Or.inl ⟨by rfl, ?_⟩) hHeld ?_ ?_
                    rotate_left
                    · rintro w' ⟨s0, s1, s2, s3, s4, s5⟩
                      go_simp
                      with_reducible rfl
                    rotate_left
                    · simp only [Act.put, List.setIfInBounds_toArray, List.set_cons_zero, List.set_cons_succ, i64_w, i32_w]
                      rfl
                    refine take_ (i := 2) (N := some 51) (v := ?_) (a' := ?_) #[true, false, true, false, false] rfl rfl (by kernel_rfl) (fun _ _ _ h => h) (Or.inl ⟨by rfl, ?_⟩) hHeld ?_ ?_
                    rotate_left
                    · rintro w' ⟨s0, s1, s2, s3, s4, s5⟩
                      go_simp
                      with_reducible rfl
                    rotate_left
                    · simp only [Act.put, List.setIfInBounds_toArray, List.set_cons_zero, List.set_cons_succ, i64_w, i32_w]
                      rfl
                    refine one_ (i := 1) (N := some 50) #[true, true, true, false, false] rfl rfl (by kernel_rfl) (by decide) (fun K hK => ?_)
                    refine goes_ Tryd.func26 (by kernel_rfl) rfl #[.agg #[.int .u64 a0_0, .int .u64 a0_1, .int .u64 a0_2, .int .i64 a0_3, .int .i64 a0_4, .bool a0_5]] (by rfl) rfl rfl (by (try simp only [List.map_toArray, List.map_cons, List.map_nil]); first | done | rfl | (simp only [List.length_drop, List.length_take]; rfl)) ?_
                    with_reducible refine (cap_Clear.calls a0_0 a0_1 a0_2 a0_3 a0_4 a0_5 t650 t651 t652 t653 t654 t655 _ A23.out).mono ?_
                    rintro e w46 ⟨rfl, hb⟩
                    refine ⟨_, rfl, ?_⟩
                    have n0_ := Aside0.mk (blk_below (g := gb613) (o := .cells #[.int .u64 a0_0, .int .u64 a0_1, .int .u64 a0_2, .int .i64 a0_3, .int .i64 a0_4, .bool a0_5] 24 (0, 0)) (by (with_reducible repeat (first | refine blk_drewN ?_ _ | refine blk_drew ?_ | refine blk_alloc ?_ _)); exact BK613.out) hb)
                    have n1_ := Aside0.mk (below_step (by repeat (first | (with_reducible first | exact HB.out | apply below_alloc | apply pw_below_drewN | apply below_drew1 | refine below_set ?_ GE613.out) | exact HB.out)) hb)
                    clear BK613
                    clear HB
                    have BK613 := n0_
                    have HB := n1_
                    clear n0_ n1_
                    (try clear hb)
                    (try clear hb2)
                    (try clear hk)
                    (try clear hi)
                    refine hK.out _ _ ⟨(blk_cell BK613.out 0).trans rfl, (blk_cell BK613.out 1).trans rfl, (blk_cell BK613.out 2).trans rfl, (blk_cell BK613.out 3).trans rfl, (blk_cell BK613.out 4).trans rfl, (blk_cell BK613.out 5).trans rfl⟩ (fun hHeld => ?_)
                    clear hK K
                    refine norm_ (a' := ?_) ?_ ?_
                    rotate_left
                    · show Act.put _ (some 50) _ = _
                      simp only [Act.put, List.setIfInBounds_toArray, List.set_cons_zero, List.set_cons_succ, i64_w, i32_w]
                      rfl
                    refine one_ (i := 3) (N := some 52) #[true, true, true, true, false] rfl rfl (by kernel_rfl) (by decide) (fun K hK => ?_)
                    refine goes_ Tryd.func31 (by kernel_rfl) rfl #[.agg #[.int .u64 t650, .int .u64 t651, .int .u64 t652, .int .i64 t653, .int .i64 t654, .bool t655], .agg #[.int .u64 a0_0, .int .u64 a0_1, .int .u64 a0_2, .int .i64 a0_3, .int .i64 a0_4, .bool a0_5]] (by rfl) rfl rfl (by (try simp only [List.map_toArray, List.map_cons, List.map_nil]); first | done | rfl | (simp only [List.length_drop, List.length_take]; rfl)) ?_
                    with_reducible refine (cap_Within.calls t650 t651 t652 t653 t654 t655 a0_0 a0_1 a0_2 a0_3 a0_4 a0_5 true _ A24.out).mono ?_
                    rintro e w47 ⟨rfl, hb⟩
                    refine ⟨_, rfl, ?_⟩
                    have n0_ := Aside0.mk (blk_below (g := gb613) (o := .cells #[.int .u64 a0_0, .int .u64 a0_1, .int .u64 a0_2, .int .i64 a0_3, .int .i64 a0_4, .bool a0_5] 24 (0, 0)) (by (with_reducible repeat (first | refine blk_drewN ?_ _ | refine blk_drew ?_ | refine blk_alloc ?_ _)); exact BK613.out) hb)
                    have n1_ := Aside0.mk (below_step (by repeat (first | (with_reducible first | exact HB.out | apply below_alloc | apply pw_below_drewN | apply below_drew1 | refine below_set ?_ GE613.out) | exact HB.out)) hb)
                    clear BK613
                    clear HB
                    have BK613 := n0_
                    have HB := n1_
                    clear n0_ n1_
                    (try clear hb)
                    (try clear hb2)
                    (try clear hk)
                    (try clear hi)
                    refine hK.out _ _ ⟨(blk_cell BK613.out 0).trans rfl, (blk_cell BK613.out 1).trans rfl, (blk_cell BK613.out 2).trans rfl, (blk_cell BK613.out 3).trans rfl, (blk_cell BK613.out 4).trans rfl, (blk_cell BK613.out 5).trans rfl⟩ (fun hHeld => ?_)
                    clear hK K
                    refine norm_ (a' := ?_) ?_ ?_
                    rotate_left
                    · show Act.put _ (some 52) _ = _
                      simp only [Act.put, List.setIfInBounds_toArray, List.set_cons_zero, List.set_cons_succ, i64_w, i32_w]
                      rfl
                    refine pure_ (i := 4) (N := some 13) (v := ?_) (a' := ?_) #[true, true, true, true, true] rfl rfl (by kernel_rfl) (fun _ _ _ h => h) (Or.inl ⟨by rfl, ?_⟩) ?_ ?_
                    rotate_left
                    · intro w'
                      go_simp
                      with_reducible rfl
                    rotate_left
                    · simp only [Act.put, List.setIfInBounds_toArray, List.set_cons_zero, List.set_cons_succ, i64_w, i32_w]
                      rfl
                    refine done_ (by kernel_rfl) ?_
                    have hcz48_0 : w47.cell? ⟨gb613, 0, none⟩ = some (.int .u64 a0_0) := (blk_cell BK613.out 0).trans rfl
                    have hcz48_1 : w47.cell? ⟨gb613, 1, none⟩ = some (.int .u64 a0_1) := (blk_cell BK613.out 1).trans rfl
                    have hcz48_2 : w47.cell? ⟨gb613, 2, none⟩ = some (.int .u64 a0_2) := (blk_cell BK613.out 2).trans rfl
                    have hcz48_3 : w47.cell? ⟨gb613, 3, none⟩ = some (.int .i64 a0_3) := (blk_cell BK613.out 3).trans rfl
                    have hcz48_4 : w47.cell? ⟨gb613, 4, none⟩ = some (.int .i64 a0_4) := (blk_cell BK613.out 4).trans rfl
                    have hcz48_5 : w47.cell? ⟨gb613, 5, none⟩ = some (.bool a0_5) := (blk_cell BK613.out 5).trans rfl
                    have hfz48_0 := blk_frozen BK613.out 0
                    have hfz48_1 := blk_frozen BK613.out 1
                    have hfz48_2 := blk_frozen BK613.out 2
                    have hfz48_3 := blk_frozen BK613.out 3
                    have hfz48_4 := blk_frozen BK613.out 4
                    have hfz48_5 := blk_frozen BK613.out 5
                    try go_wp2_with (first | ((with_reducible refine gate_dst (N := 55) rfl ?_); (with_reducible refine gate_callee (f := 31) rfl ?_); refine goesL_ (some 55) rfl rfl Tryd.func31 (by kernel_rfl) rfl #[.agg #[.int .u64 a0_0, .int .u64 a0_1, .int .u64 a0_2, .int .i64 a0_3, .int .i64 a0_4, .bool a0_5], .agg #[.int .u64 a0_0, .int .u64 a0_1, .int .u64 a0_2, .int .i64 a0_3, .int .i64 a0_4, .bool a0_5]] rfl (by (try simp only [List.map_toArray, List.map_cons, List.map_nil]); first | done | rfl | (simp only [List.length_drop, List.length_take]; rfl)) ?_; (with_reducible refine (cap_Within.calls a0_0 a0_1 a0_2 a0_3 a0_4 a0_5 a0_0 a0_1 a0_2 a0_3 a0_4 a0_5 t657 _ A25.out).mono ?_); rintro e w49 ⟨rfl, hb⟩; refine ⟨_, rfl, ?_⟩; have n0_ := Aside0.mk (blk_below (g := gb613) (o := .cells #[.int .u64 a0_0, .int .u64 a0_1, .int .u64 a0_2, .int .i64 a0_3, .int .i64 a0_4, .bool a0_5] 24 (0, 0)) (by (with_reducible repeat (first | refine blk_drewN ?_ _ | refine blk_drew ?_ | refine blk_alloc ?_ _)); exact BK613.out) hb); have n1_ := Aside0.mk (below_step (by repeat (first | (with_reducible first | exact HB.out | apply below_alloc | apply pw_below_drewN | apply below_drew1 | refine below_set ?_ GE613.out) | exact HB.out)) hb); clear BK613; clear HB; have BK613 := n0_; have HB := n1_; clear n0_ n1_; (try clear hb); (try clear hb2); (try clear hk); (try clear hi)))
                    go_ret
                    exact ⟨by first | rfl | (simp [errW_none, errW_some] <;> rfl) | (simp [*, errW_none, errW_some] <;> rfl), by repeat (first | (with_reducible first | exact HB.out | apply below_alloc | apply pw_below_drewN | apply below_drew1 | refine below_set ?_ GE613.out) | exact HB.out)⟩
                  · replace c31 := Bool.eq_false_iff.mpr c31
                    subst c31
                    have H1 : (some false) = some r := by rw [if_neg (show ¬ (false = true) by decide)] at H; exact H
                    clear H
                    have H := H1
                    clear H1
                    exact absurd ((Option.some.inj H).trans HT.out) (by decide)
                · replace c30 := Bool.eq_false_iff.mpr c30
                  subst c30
                  have H1 : (some false) = some r := by rw [if_neg (show ¬ (false = true) by decide)] at H; exact H
                  clear H
                  have H := H1
                  clear H1
                  exact absurd ((Option.some.inj H).trans HT.out) (by decide)
              · replace c29 := Bool.eq_false_iff.mpr c29
                subst c29
                have H1 : (some false) = some r := by rw [if_neg (show ¬ (false = true) by decide)] at H; exact H
                clear H
                have H := H1
                clear H1
                exact absurd ((Option.some.inj H).trans HT.out) (by decide)
            · replace c28 := Bool.eq_false_iff.mpr c28
              subst c28
              have H1 : (some false) = some r := by rw [if_neg (show ¬ (false = true) by decide)] at H; exact H
              clear H
              have H := H1
              clear H1
              exact absurd ((Option.some.inj H).trans HT.out) (by decide)
          · replace c27 := Bool.eq_false_iff.mpr c27
            subst c27
            have H1 : (some false) = some r := by rw [if_neg (show ¬ (false = true) by decide)] at H; exact H
            clear H
            have H := H1
            clear H1
            exact absurd ((Option.some.inj H).trans HT.out) (by decide)
        · replace c26 := Bool.eq_false_iff.mpr c26
          subst c26
          have H1 : (some false) = some r := by rw [if_neg (show ¬ (false = true) by decide)] at H; exact H
          clear H
          have H := H1
          clear H1
          exact absurd ((Option.some.inj H).trans HT.out) (by decide)

end Go.Proofs.YtafpkpalkaphkaaDoor.P
