/- What functions of the program, and of its laws, give, each proved of its code by a walk; no condition. -/
import Derived.Test.YtchjhnflogojcaaPx0
namespace Go.Proofs.Ytchjhnflogojcaa.P
open Go.RowKit Go.Proofs.YtchjhnflogojcaaW.PrintWords Go.Proofs.YtchjhnflogojcaaW.PrintLast Go.Proofs.YtchjhnflogojcaaW.PrintMore
attribute [local go_sem] max2_int min2_int max_two min_two max_three min_three max_four min_four   -- for this text's walks alone
set_option linter.unusedVariables false
set_option linter.unusedSimpArgs false

/-! ### curtilageref22_among: function 26 -/
def curtilageref22_among.f (a0 : Int) (a1 : Int) (a2 : Int) : Option (Bool) := if a0 ≥ a1 then (some (decide ((IntKind.u64.wrap (a0 - a1)) < a2))) else (some false)
set_option maxHeartbeats 8000000 in
set_option maxRecDepth 100000 in
theorem curtilageref22_among.calls (a0 : Int) (a1 : Int) (a2 : Int) (r : Bool) (w : World) (h : curtilageref22_among.f a0 a1 a2 = some r) :
    Calls Try.prog 26 #[.int .u64 a0, .int .u64 a1, .int .u64 a2] w fun e w' => e = .returned (.bool r) ∧ Drawn0 w w' := by
  have H : (if a0 ≥ a1 then (some (decide ((IntKind.u64.wrap (a0 - a1)) < a2))) else (some false)) = some r := h
  clear h
  by_cases c4 : a0 ≥ a1
  · rw [if_pos c4] at H
    have c4b0 : decide (a1 ≤ a0) = true := decide_eq_true c4
    clear c4
    obtain rfl := Option.some.inj H
    go_enter Try.func26, Try.ntmps26
    go_wp2
    go_ret
    exact ⟨by first | rfl | (simp; done) | (simp [*]; done), by repeat (first | exact Drawn0.refl _ | apply Drawn0.step)⟩
  · rw [if_neg c4] at H
    have c4b0 : decide (a1 ≤ a0) = false := decide_eq_false c4
    clear c4
    obtain rfl := Option.some.inj H
    go_enter Try.func26, Try.ntmps26
    go_wp2
    go_ret
    exact ⟨by first | rfl | (simp; done) | (simp [*]; done), by repeat (first | exact Drawn0.refl _ | apply Drawn0.step)⟩

/-! ### sweep_Touches: function 9 -/
def sweep_Touches.j0 : Nat → Int → Bool → Int → Int → Int → Int → Int → Bool → Int → Int → Option (Bool)
  | 0, _, _, _, _, _, _, _, _, _, _ => none
  | k + 1, x3, x20, x102000, x102001, x102002, x102003, x102004, x102005, x103000, x104000 => if x20 = true then (some false) else (if x3 ≥ 0 then (if x102004 = x3 then (some true) else ((curtilageref22_among.f x102000 x103000 x104000).bind fun t104 => (if t104 = true then (some true) else (if x104000 > 0 then (if x103000 ≥ x102000 then (some (decide (x103000 < x102001))) else (some false)) else (some false))))) else ((curtilageref22_among.f x102000 x103000 x104000).bind fun t105 => (if t105 = true then (some true) else (if x104000 > 0 then (if x103000 ≥ x102000 then (some (decide (x103000 < x102001))) else (some false)) else (some false)))))
def sweep_Touches.f (k : Nat) (a0_0 : Int) (a0_1 : Int) (a0_2 : Int) (a0_3 : Int) (a0_4 : Int) (a0_5 : Bool) (a1 : Int) (a2 : Int) (a3 : Int) : Option (Bool) := if a0_5 = true then (if a2 = 0 then (sweep_Touches.j0 k a3 (decide (a3 < 0)) a0_0 a0_1 a0_2 a0_3 a0_4 a0_5 a1 a2) else (sweep_Touches.j0 k a3 false a0_0 a0_1 a0_2 a0_3 a0_4 a0_5 a1 a2)) else (sweep_Touches.j0 k a3 true a0_0 a0_1 a0_2 a0_3 a0_4 a0_5 a1 a2)
theorem sweep_Touches.mono_l : ∀ k, (∀ y0 y1 y2 y3 y4 y5 y6 y7 y8 y9, LeO (sweep_Touches.j0 k y0 y1 y2 y3 y4 y5 y6 y7 y8 y9) (sweep_Touches.j0 (k + 1) y0 y1 y2 y3 y4 y5 y6 y7 y8 y9))
  | 0 => fun _ _ _ _ _ _ _ _ _ _ r h => by simp [sweep_Touches.j0] at h
  | k + 1 => by
    have ih0 := sweep_Touches.mono_l k
    · intro y0 y1 y2 y3 y4 y5 y6 y7 y8 y9
      unfold sweep_Touches.j0
      repeat' first
      | (with_reducible exact ih0 _ _ _ _ _ _ _ _ _ _)
      | (with_reducible exact LeO.refl _)
      | (with_reducible exact LeO.none _)
      | (with_reducible refine LeO.ite ?_ ?_)
      | (with_reducible refine LeO.bind ?_ (fun _ => ?_))
      | exact ih0 _ _ _ _ _ _ _ _ _ _
      | exact LeO.none _
      | refine LeO.ite ?_ ?_
      | refine LeO.bind ?_ (fun _ => ?_)
theorem sweep_Touches.mono : ∀ a0 a1 a2 a3 a4 a5 a6 a7 a8 k, LeO (sweep_Touches.f k a0 a1 a2 a3 a4 a5 a6 a7 a8) (sweep_Touches.f (k + 1) a0 a1 a2 a3 a4 a5 a6 a7 a8) := by
  intro a0 a1 a2 a3 a4 a5 a6 a7 a8 k
  have ih0 := sweep_Touches.mono_l k
  unfold sweep_Touches.f
  repeat' first
      | (with_reducible exact ih0 _ _ _ _ _ _ _ _ _ _)
      | (with_reducible exact LeO.refl _)
      | (with_reducible exact LeO.none _)
      | (with_reducible refine LeO.ite ?_ ?_)
      | (with_reducible refine LeO.bind ?_ (fun _ => ?_))
      | exact ih0 _ _ _ _ _ _ _ _ _ _
      | exact LeO.none _
      | refine LeO.ite ?_ ?_
      | refine LeO.bind ?_ (fun _ => ?_)
theorem sweep_Touches.in_calls (x fr n : Int) (r : Bool) (A B : Addr) (w : World) (hA : w.cell? A = some (.int .u64 fr)) (hB : w.cell? B = some (.int .u64 n)) (h : curtilageref22_among.f x fr n = some r) :
    Calls Try.prog 25 #[.int .u64 x, .pointer (some A), .pointer (some B)] w fun e w' => e = .returned (.bool r) ∧ Drawn0 w w' := by
  have hu := IntKind.wrap_u64
  unfold curtilageref22_among.f at h
  go_enter Try.func25, Try.ntmps25
  by_cases h1 : fr ≤ x
  · rw [if_pos h1] at h
    obtain rfl := Option.some.inj h
    go_wp2
    go_ret
    exact ⟨by simp [h1], 0, rfl⟩
  · rw [if_neg h1] at h
    obtain rfl := Option.some.inj h
    go_wp2
    go_ret
    exact ⟨by simp [h1], 0, rfl⟩
set_option maxHeartbeats 8000000 in
set_option maxRecDepth 100000 in
theorem sweep_Touches.calls (k : Nat) (a0_0 : Int) (a0_1 : Int) (a0_2 : Int) (a0_3 : Int) (a0_4 : Int) (a0_5 : Bool) (a1 : Int) (a2 : Int) (a3 : Int) (r : Bool) (w : World) (h : sweep_Touches.f k a0_0 a0_1 a0_2 a0_3 a0_4 a0_5 a1 a2 a3 = some r) :
    Calls Try.prog 9 #[.agg #[.int .u64 a0_0, .int .u64 a0_1, .int .u64 a0_2, .int .i64 a0_3, .int .i64 a0_4, .bool a0_5], .int .u64 a1, .int .u64 a2, .int .i64 a3] w fun e w' => e = .returned (.bool r) ∧ Below w.heap.size w w' := by
  have hu24 := Try.underlying24
  have HB := Aside0.mk (Below.refl w.heap.size w)
  have H : (if a0_5 = true then (if a2 = 0 then (sweep_Touches.j0 k a3 (decide (a3 < 0)) a0_0 a0_1 a0_2 a0_3 a0_4 a0_5 a1 a2) else (sweep_Touches.j0 k a3 false a0_0 a0_1 a0_2 a0_3 a0_4 a0_5 a1 a2)) else (sweep_Touches.j0 k a3 true a0_0 a0_1 a0_2 a0_3 a0_4 a0_5 a1 a2)) = some r := h
  clear h
  have HC5 := Aside0.mk H
  clear H
  have hmf : ∀ (fn : Fn) (first cap : Array Value) (w : World), (Instr.makeFunc fn first cap).run Try.prog w = .ok (.func fn first cap) w := fun _ _ _ _ => rfl
  go_enter Try.func9, Try.ntmps9
  go_upto_region 1 with (first | ((with_reducible refine gate_dst (N := 4) rfl ?_); refine box_event ?hg (N := 4) ?hd (cs := #[.int .u64 a0_0, .int .u64 a0_1, .int .u64 a0_2, .int .i64 a0_3, .int .i64 a0_4, .bool a0_5]) (t := 24) ?hr ?_; (case hd => rfl); (case hg => rfl); (case hr => first | (go_simp; done) | (go_simp; rfl)); intro gb101 hg w6 hbox hb; have n0_ := Aside0.mk (below_step (by repeat (first | (with_reducible first | exact HB.out | apply below_alloc | apply pw_below_drewN | apply below_drew1) | exact HB.out)) hb); have n1_ := Aside0.mk (hbox); have n2_ := Aside0.mk ((by rw [hg]; exact (below_size (by repeat (first | (with_reducible first | exact HB.out | apply below_alloc | apply pw_below_drewN | apply below_drew1) | exact HB.out))) : w.heap.size ≤ gb101)); have n3_ := Aside0.mk ((by rw [hg]; exact (below_size (by repeat (first | (with_reducible first | exact HB.out | apply below_alloc | apply pw_below_drewN | apply below_drew1) | exact HB.out))) : w.heap.size ≤ gb101)); clear HB; have HB := n0_; have BK101 := n1_; have GW101 := n2_; have GE101 := n3_; clear n0_ n1_ n2_ n3_; clear hb hbox hg) | ((with_reducible refine gate_dst (N := 5) rfl ?_); refine box_event ?hg (N := 5) ?hd (cs := #[.int .u64 a1]) (t := 22) ?hr ?_; (case hd => rfl); (case hg => rfl); (case hr => first | (go_simp; done) | (go_simp; rfl)); intro gb102 hg w7 hbox hb; have n0_ := Aside0.mk (blk_below (g := gb101) (o := .cells #[.int .u64 a0_0, .int .u64 a0_1, .int .u64 a0_2, .int .i64 a0_3, .int .i64 a0_4, .bool a0_5] 24 (0, 0)) (by (with_reducible repeat (first | refine blk_drewN ?_ _ | refine blk_drew ?_ | refine blk_alloc ?_ _)); exact BK101.out) hb); have n1_ := Aside0.mk (below_step (by repeat (first | (with_reducible first | exact HB.out | apply below_alloc | apply pw_below_drewN | apply below_drew1 | refine below_set ?_ GE101.out) | exact HB.out)) hb); have n2_ := Aside0.mk (hbox); have n3_ := Aside0.mk ((by rw [hg]; exact (below_size (by repeat (first | (with_reducible first | exact HB.out | apply below_alloc | apply pw_below_drewN | apply below_drew1 | refine below_set ?_ GE101.out) | exact HB.out))) : w.heap.size ≤ gb102)); have n4_ := Aside0.mk ((by rw [hg]; exact (below_size (by repeat (first | (with_reducible first | exact HB.out | apply below_alloc | apply pw_below_drewN | apply below_drew1 | refine below_set ?_ GE101.out) | exact HB.out))) : w.heap.size ≤ gb102)); have n5_ := Aside0.mk ((by rw [hg]; exact Nat.ne_of_lt (blk_lt (g := gb101) (o := .cells #[.int .u64 a0_0, .int .u64 a0_1, .int .u64 a0_2, .int .i64 a0_3, .int .i64 a0_4, .bool a0_5] 24 (0, 0)) (by (with_reducible repeat (first | refine blk_drewN ?_ _ | refine blk_drew ?_ | refine blk_alloc ?_ _)); exact BK101.out)) : gb101 ≠ gb102)); have n6_ := Aside0.mk ((by rw [hg]; exact Nat.ne_of_gt (blk_lt (g := gb101) (o := .cells #[.int .u64 a0_0, .int .u64 a0_1, .int .u64 a0_2, .int .i64 a0_3, .int .i64 a0_4, .bool a0_5] 24 (0, 0)) (by (with_reducible repeat (first | refine blk_drewN ?_ _ | refine blk_drew ?_ | refine blk_alloc ?_ _)); exact BK101.out)) : gb102 ≠ gb101)); clear BK101; clear HB; have BK101 := n0_; have HB := n1_; have BK102 := n2_; have GW102 := n3_; have GE102 := n4_; have NB101_102 := n5_; have NB102_101 := n6_; clear n0_ n1_ n2_ n3_ n4_ n5_ n6_; clear hb hbox hg) | ((with_reducible refine gate_dst (N := 6) rfl ?_); refine box_event ?hg (N := 6) ?hd (cs := #[.int .u64 a2]) (t := 22) ?hr ?_; (case hd => rfl); (case hg => rfl); (case hr => first | (go_simp; done) | (go_simp; rfl)); intro gb103 hg w8 hbox hb; have n0_ := Aside0.mk (blk_below (g := gb101) (o := .cells #[.int .u64 a0_0, .int .u64 a0_1, .int .u64 a0_2, .int .i64 a0_3, .int .i64 a0_4, .bool a0_5] 24 (0, 0)) (by (with_reducible repeat (first | refine blk_drewN ?_ _ | refine blk_drew ?_ | refine blk_alloc ?_ _)); exact BK101.out) hb); have n1_ := Aside0.mk (blk_below (g := gb102) (o := .cells #[.int .u64 a1] 22 (0, 0)) (by (with_reducible repeat (first | refine blk_drewN ?_ _ | refine blk_drew ?_ | refine blk_alloc ?_ _)); exact BK102.out) hb); have n2_ := Aside0.mk (below_step (by repeat (first | (with_reducible first | exact HB.out | apply below_alloc | apply pw_below_drewN | apply below_drew1 | refine below_set ?_ GE101.out | refine below_set ?_ GE102.out) | exact HB.out)) hb); have n3_ := Aside0.mk (hbox); have n4_ := Aside0.mk ((by rw [hg]; exact (below_size (by repeat (first | (with_reducible first | exact HB.out | apply below_alloc | apply pw_below_drewN | apply below_drew1 | refine below_set ?_ GE101.out | refine below_set ?_ GE102.out) | exact HB.out))) : w.heap.size ≤ gb103)); have n5_ := Aside0.mk ((by rw [hg]; exact (below_size (by repeat (first | (with_reducible first | exact HB.out | apply below_alloc | apply pw_below_drewN | apply below_drew1 | refine below_set ?_ GE101.out | refine below_set ?_ GE102.out) | exact HB.out))) : w.heap.size ≤ gb103)); have n6_ := Aside0.mk ((by rw [hg]; exact Nat.ne_of_lt (blk_lt (g := gb101) (o := .cells #[.int .u64 a0_0, .int .u64 a0_1, .int .u64 a0_2, .int .i64 a0_3, .int .i64 a0_4, .bool a0_5] 24 (0, 0)) (by (with_reducible repeat (first | refine blk_drewN ?_ _ | refine blk_drew ?_ | refine blk_alloc ?_ _)); exact BK101.out)) : gb101 ≠ gb103)); have n7_ := Aside0.mk ((by rw [hg]; exact Nat.ne_of_gt (blk_lt (g := gb101) (o := .cells #[.int .u64 a0_0, .int .u64 a0_1, .int .u64 a0_2, .int .i64 a0_3, .int .i64 a0_4, .bool a0_5] 24 (0, 0)) (by (with_reducible repeat (first | refine blk_drewN ?_ _ | refine blk_drew ?_ | refine blk_alloc ?_ _)); exact BK101.out)) : gb103 ≠ gb101)); have n8_ := Aside0.mk ((by rw [hg]; exact Nat.ne_of_lt (blk_lt (g := gb102) (o := .cells #[.int .u64 a1] 22 (0, 0)) (by (with_reducible repeat (first | refine blk_drewN ?_ _ | refine blk_drew ?_ | refine blk_alloc ?_ _)); exact BK102.out)) : gb102 ≠ gb103)); have n9_ := Aside0.mk ((by rw [hg]; exact Nat.ne_of_gt (blk_lt (g := gb102) (o := .cells #[.int .u64 a1] 22 (0, 0)) (by (with_reducible repeat (first | refine blk_drewN ?_ _ | refine blk_drew ?_ | refine blk_alloc ?_ _)); exact BK102.out)) : gb103 ≠ gb102)); clear BK101; clear BK102; clear HB; have BK101 := n0_; have BK102 := n1_; have HB := n2_; have BK103 := n3_; have GW103 := n4_; have GE103 := n5_; have NB101_103 := n6_; have NB103_101 := n7_; have NB102_103 := n8_; have NB103_102 := n9_; clear n0_ n1_ n2_ n3_ n4_ n5_ n6_ n7_ n8_ n9_; clear hb hbox hg))
  (try simp only [Act.put, List.setIfInBounds_toArray, List.set_cons_zero, List.set_cons_succ])
  go_cut [20] (fun v20 wc => ∃ (kq : Nat) (x20_4 : Bool), v20 = .bool x20_4 ∧ Aside0 (sweep_Touches.j0 kq a3 x20_4 a0_0 a0_1 a0_2 a0_3 a0_4 a0_5 a1 a2 = some r) ∧ Aside0 (kq ≤ k) ∧ Aside0 (wc.heap[gb101]? = some (.cells #[.int .u64 a0_0, .int .u64 a0_1, .int .u64 a0_2, .int .i64 a0_3, .int .i64 a0_4, .bool a0_5] 24 (0, 0))) ∧ Aside0 (wc.heap[gb102]? = some (.cells #[.int .u64 a1] 22 (0, 0))) ∧ Aside0 (wc.heap[gb103]? = some (.cells #[.int .u64 a2] 22 (0, 0))) ∧ Aside0 (Below w.heap.size w wc))
  case first =>
    have H := HC5.out
    clear HC5
    by_cases c9 : a0_5 = true
    · subst c9
      have H1 : (if a2 = 0 then (sweep_Touches.j0 k a3 (decide (a3 < 0)) a0_0 a0_1 a0_2 a0_3 a0_4 true a1 a2) else (sweep_Touches.j0 k a3 false a0_0 a0_1 a0_2 a0_3 a0_4 true a1 a2)) = some r := by rw [if_pos rfl] at H; exact H
      clear H
      have H := H1
      clear H1
      by_cases c10 : a2 = 0
      · rw [if_pos c10] at H
        have c10b0 : (a2 == 0) = true := beq_iff_eq.mpr c10
        have c10b1 : (a2 != 0) = false := bne_eq_false_iff_eq.mpr c10
        clear c10
        (first | rw [c10b0] | (simp only [i64_w, i32_w]; rw [c10b0]) | skip)
        have H' := Aside0.mk H
        clear H
        have hnb11 := NB101_102.out
        have hnc11 := NB102_101.out
        have hnb12 := NB101_103.out
        have hnc12 := NB103_101.out
        have hcz13_0 : w8.cell? ⟨gb101, 0, none⟩ = some (.int .u64 a0_0) := (blk_cell BK101.out 0).trans rfl
        have hcz13_1 : w8.cell? ⟨gb101, 1, none⟩ = some (.int .u64 a0_1) := (blk_cell BK101.out 1).trans rfl
        have hcz13_2 : w8.cell? ⟨gb101, 2, none⟩ = some (.int .u64 a0_2) := (blk_cell BK101.out 2).trans rfl
        have hcz13_3 : w8.cell? ⟨gb101, 3, none⟩ = some (.int .i64 a0_3) := (blk_cell BK101.out 3).trans rfl
        have hcz13_4 : w8.cell? ⟨gb101, 4, none⟩ = some (.int .i64 a0_4) := (blk_cell BK101.out 4).trans rfl
        have hcz13_5 : w8.cell? ⟨gb101, 5, none⟩ = some (.bool true) := (blk_cell BK101.out 5).trans rfl
        have hfz13_0 := blk_frozen BK101.out 0
        have hfz13_1 := blk_frozen BK101.out 1
        have hfz13_2 := blk_frozen BK101.out 2
        have hfz13_3 := blk_frozen BK101.out 3
        have hfz13_4 := blk_frozen BK101.out 4
        have hfz13_5 := blk_frozen BK101.out 5
        have hnb14 := NB103_102.out
        have hnc14 := NB102_103.out
        have hcz15_0 : w8.cell? ⟨gb103, 0, none⟩ = some (.int .u64 a2) := (blk_cell BK103.out 0).trans rfl
        have hfz15_0 := blk_frozen BK103.out 0
        go_wp2
        go_meet
        case rel => exact ⟨_, (decide (a3 < 0)), (by first | rfl | (simp; done) | (simp [*]; done)), H', ⟨by first | omega | exact Nat.le_refl _⟩, ⟨by (with_reducible repeat (first | refine blk_drewN ?_ _ | refine blk_drew ?_ | refine blk_alloc ?_ _)); exact BK101.out⟩, ⟨by (with_reducible repeat (first | refine blk_drewN ?_ _ | refine blk_drew ?_ | refine blk_alloc ?_ _)); exact BK102.out⟩, ⟨by (with_reducible repeat (first | refine blk_drewN ?_ _ | refine blk_drew ?_ | refine blk_alloc ?_ _)); exact BK103.out⟩, ⟨by repeat (first | (with_reducible first | exact HB.out | apply below_alloc | apply pw_below_drewN | apply below_drew1 | refine below_set ?_ GE101.out | refine below_set ?_ GE102.out | refine below_set ?_ GE103.out) | exact HB.out)⟩⟩
      · rw [if_neg c10] at H
        have c10b0 : (a2 == 0) = false := beq_eq_false_iff_ne.mpr c10
        have c10b1 : (a2 != 0) = true := bne_iff_ne.mpr c10
        (first | rw [c10b0] | (simp only [i64_w, i32_w]; rw [c10b0]) | skip)
        have H' := Aside0.mk H
        clear H
        have hnb16 := NB101_102.out
        have hnc16 := NB102_101.out
        have hnb17 := NB101_103.out
        have hnc17 := NB103_101.out
        have hcz18_0 : w8.cell? ⟨gb101, 0, none⟩ = some (.int .u64 a0_0) := (blk_cell BK101.out 0).trans rfl
        have hcz18_1 : w8.cell? ⟨gb101, 1, none⟩ = some (.int .u64 a0_1) := (blk_cell BK101.out 1).trans rfl
        have hcz18_2 : w8.cell? ⟨gb101, 2, none⟩ = some (.int .u64 a0_2) := (blk_cell BK101.out 2).trans rfl
        have hcz18_3 : w8.cell? ⟨gb101, 3, none⟩ = some (.int .i64 a0_3) := (blk_cell BK101.out 3).trans rfl
        have hcz18_4 : w8.cell? ⟨gb101, 4, none⟩ = some (.int .i64 a0_4) := (blk_cell BK101.out 4).trans rfl
        have hcz18_5 : w8.cell? ⟨gb101, 5, none⟩ = some (.bool true) := (blk_cell BK101.out 5).trans rfl
        have hfz18_0 := blk_frozen BK101.out 0
        have hfz18_1 := blk_frozen BK101.out 1
        have hfz18_2 := blk_frozen BK101.out 2
        have hfz18_3 := blk_frozen BK101.out 3
        have hfz18_4 := blk_frozen BK101.out 4
        have hfz18_5 := blk_frozen BK101.out 5
        have hnb19 := NB103_102.out
        have hnc19 := NB102_103.out
        have hcz20_0 : w8.cell? ⟨gb103, 0, none⟩ = some (.int .u64 a2) := (blk_cell BK103.out 0).trans rfl
        have hfz20_0 := blk_frozen BK103.out 0
        go_wp2
        go_meet
        case rel => exact ⟨_, (false), (by first | rfl | (simp; done) | (simp [*]; done)), H', ⟨by first | omega | exact Nat.le_refl _⟩, ⟨by (with_reducible repeat (first | refine blk_drewN ?_ _ | refine blk_drew ?_ | refine blk_alloc ?_ _)); exact BK101.out⟩, ⟨by (with_reducible repeat (first | refine blk_drewN ?_ _ | refine blk_drew ?_ | refine blk_alloc ?_ _)); exact BK102.out⟩, ⟨by (with_reducible repeat (first | refine blk_drewN ?_ _ | refine blk_drew ?_ | refine blk_alloc ?_ _)); exact BK103.out⟩, ⟨by repeat (first | (with_reducible first | exact HB.out | apply below_alloc | apply pw_below_drewN | apply below_drew1 | refine below_set ?_ GE101.out | refine below_set ?_ GE102.out | refine below_set ?_ GE103.out) | exact HB.out)⟩⟩
    · replace c9 := Bool.eq_false_iff.mpr c9
      subst c9
      have H1 : (sweep_Touches.j0 k a3 true a0_0 a0_1 a0_2 a0_3 a0_4 false a1 a2) = some r := by rw [if_neg (show ¬ (false = true) by decide)] at H; exact H
      clear H
      have H := H1
      clear H1
      have H' := Aside0.mk H
      clear H
      have hnb21 := NB101_102.out
      have hnc21 := NB102_101.out
      have hnb22 := NB101_103.out
      have hnc22 := NB103_101.out
      have hcz23_0 : w8.cell? ⟨gb101, 0, none⟩ = some (.int .u64 a0_0) := (blk_cell BK101.out 0).trans rfl
      have hcz23_1 : w8.cell? ⟨gb101, 1, none⟩ = some (.int .u64 a0_1) := (blk_cell BK101.out 1).trans rfl
      have hcz23_2 : w8.cell? ⟨gb101, 2, none⟩ = some (.int .u64 a0_2) := (blk_cell BK101.out 2).trans rfl
      have hcz23_3 : w8.cell? ⟨gb101, 3, none⟩ = some (.int .i64 a0_3) := (blk_cell BK101.out 3).trans rfl
      have hcz23_4 : w8.cell? ⟨gb101, 4, none⟩ = some (.int .i64 a0_4) := (blk_cell BK101.out 4).trans rfl
      have hcz23_5 : w8.cell? ⟨gb101, 5, none⟩ = some (.bool false) := (blk_cell BK101.out 5).trans rfl
      have hfz23_0 := blk_frozen BK101.out 0
      have hfz23_1 := blk_frozen BK101.out 1
      have hfz23_2 := blk_frozen BK101.out 2
      have hfz23_3 := blk_frozen BK101.out 3
      have hfz23_4 := blk_frozen BK101.out 4
      have hfz23_5 := blk_frozen BK101.out 5
      go_wp2
      go_meet
      case rel => exact ⟨_, (true), (by first | rfl | (simp; done) | (simp [*]; done)), H', ⟨by first | omega | exact Nat.le_refl _⟩, ⟨by (with_reducible repeat (first | refine blk_drewN ?_ _ | refine blk_drew ?_ | refine blk_alloc ?_ _)); exact BK101.out⟩, ⟨by (with_reducible repeat (first | refine blk_drewN ?_ _ | refine blk_drew ?_ | refine blk_alloc ?_ _)); exact BK102.out⟩, ⟨by (with_reducible repeat (first | refine blk_drewN ?_ _ | refine blk_drew ?_ | refine blk_alloc ?_ _)); exact BK103.out⟩, ⟨by repeat (first | (with_reducible first | exact HB.out | apply below_alloc | apply pw_below_drewN | apply below_drew1 | refine below_set ?_ GE101.out | refine below_set ?_ GE102.out | refine below_set ?_ GE103.out) | exact HB.out)⟩⟩
  case rest =>
    clear HC5
    try clear c1
    try clear c2
    try clear p2
    try clear c9
    try clear c10
    try clear c10b0
    try clear c10b1
    try clear c11
    try clear c12
    try clear c14
    try clear c16
    try clear c17
    try clear c19
    try clear c21
    try clear c22
    try clear hcz13_0
    try clear hcz13_1
    try clear hcz13_2
    try clear hcz13_3
    try clear hcz13_4
    try clear hcz13_5
    try clear hcz15_0
    try clear hcz18_0
    try clear hcz18_1
    try clear hcz18_2
    try clear hcz18_3
    try clear hcz18_4
    try clear hcz18_5
    try clear hcz20_0
    try clear hcz23_0
    try clear hcz23_1
    try clear hcz23_2
    try clear hcz23_3
    try clear hcz23_4
    try clear hcz23_5
    try clear hfz13_0
    try clear hfz13_1
    try clear hfz13_2
    try clear hfz13_3
    try clear hfz13_4
    try clear hfz13_5
    try clear hfz15_0
    try clear hfz18_0
    try clear hfz18_1
    try clear hfz18_2
    try clear hfz18_3
    try clear hfz18_4
    try clear hfz18_5
    try clear hfz20_0
    try clear hfz23_0
    try clear hfz23_1
    try clear hfz23_2
    try clear hfz23_3
    try clear hfz23_4
    try clear hfz23_5
    obtain ⟨kq, x20_4, rfl, HA, HJ4, BK101, BK102, BK103, HB⟩ := hcut
    cases kq with
    | zero => exact absurd HA.out (by simp [sweep_Touches.j0])
    | succ kj4 =>
      have H := HA.out
      clear HA
      simp only [sweep_Touches.j0] at H
      by_cases c24 : x20_4 = true
      · subst c24
        have H1 : (some false) = some r := by rw [if_pos rfl] at H; exact H
        clear H
        have H := H1
        clear H1
        obtain rfl := Option.some.inj H
        go_wp2
        go_ret
        exact ⟨by first | rfl | (simp [errW_none, errW_some] <;> rfl) | (simp [*, errW_none, errW_some] <;> rfl), by repeat (first | (with_reducible first | exact HB.out | apply below_alloc | apply pw_below_drewN | apply below_drew1 | refine below_set ?_ GE101.out | refine below_set ?_ GE102.out | refine below_set ?_ GE103.out) | exact HB.out)⟩
      · replace c24 := Bool.eq_false_iff.mpr c24
        subst c24
        have H1 : (if a3 ≥ 0 then (if a0_4 = a3 then (some true) else ((curtilageref22_among.f a0_0 a1 a2).bind fun t104 => (if t104 = true then (some true) else (if a2 > 0 then (if a1 ≥ a0_0 then (some (decide (a1 < a0_1))) else (some false)) else (some false))))) else ((curtilageref22_among.f a0_0 a1 a2).bind fun t105 => (if t105 = true then (some true) else (if a2 > 0 then (if a1 ≥ a0_0 then (some (decide (a1 < a0_1))) else (some false)) else (some false))))) = some r := by rw [if_neg (show ¬ (false = true) by decide)] at H; exact H
        clear H
        have H := H1
        clear H1
        by_cases c25 : a3 ≥ 0
        · rw [if_pos c25] at H
          have c25b0 : decide (0 ≤ a3) = true := decide_eq_true c25
          clear c25
          by_cases c26 : a0_4 = a3
          · rw [if_pos c26] at H
            have c26b0 : (a0_4 == a3) = true := beq_iff_eq.mpr c26
            have c26b1 : (a0_4 != a3) = false := bne_eq_false_iff_eq.mpr c26
            clear c26
            obtain rfl := Option.some.inj H
            have hnb27 := NB101_102.out
            have hnc27 := NB102_101.out
            have hnb28 := NB101_103.out
            have hnc28 := NB103_101.out
            have hcz29_0 : wc.cell? ⟨gb101, 0, none⟩ = some (.int .u64 a0_0) := (blk_cell BK101.out 0).trans rfl
            have hcz29_1 : wc.cell? ⟨gb101, 1, none⟩ = some (.int .u64 a0_1) := (blk_cell BK101.out 1).trans rfl
            have hcz29_2 : wc.cell? ⟨gb101, 2, none⟩ = some (.int .u64 a0_2) := (blk_cell BK101.out 2).trans rfl
            have hcz29_3 : wc.cell? ⟨gb101, 3, none⟩ = some (.int .i64 a0_3) := (blk_cell BK101.out 3).trans rfl
            have hcz29_4 : wc.cell? ⟨gb101, 4, none⟩ = some (.int .i64 a0_4) := (blk_cell BK101.out 4).trans rfl
            have hcz29_5 : wc.cell? ⟨gb101, 5, none⟩ = some (.bool a0_5) := (blk_cell BK101.out 5).trans rfl
            have hfz29_0 := blk_frozen BK101.out 0
            have hfz29_1 := blk_frozen BK101.out 1
            have hfz29_2 := blk_frozen BK101.out 2
            have hfz29_3 := blk_frozen BK101.out 3
            have hfz29_4 := blk_frozen BK101.out 4
            have hfz29_5 := blk_frozen BK101.out 5
            go_wp2
            go_ret
            exact ⟨by first | rfl | (simp [errW_none, errW_some] <;> rfl) | (simp [*, errW_none, errW_some] <;> rfl), by repeat (first | (with_reducible first | exact HB.out | apply below_alloc | apply pw_below_drewN | apply below_drew1 | refine below_set ?_ GE101.out | refine below_set ?_ GE102.out | refine below_set ?_ GE103.out) | exact HB.out)⟩
          · rw [if_neg c26] at H
            have c26b0 : (a0_4 == a3) = false := beq_eq_false_iff_ne.mpr c26
            have c26b1 : (a0_4 != a3) = true := bne_iff_ne.mpr c26
            replace H := Option.bind_eq_some_iff.mp H
            obtain ⟨t104, A300, H⟩ := H
            replace H : (if t104 = true then (some true) else (if a2 > 0 then (if a1 ≥ a0_0 then (some (decide (a1 < a0_1))) else (some false)) else (some false))) = some r := H
            have A30 := Aside0.mk A300
            clear A300
            by_cases c31 : t104 = true
            · subst c31
              have H1 : (some true) = some r := by rw [if_pos rfl] at H; exact H
              clear H
              have H := H1
              clear H1
              obtain rfl := Option.some.inj H
              have hnb32 := NB101_102.out
              have hnc32 := NB102_101.out
              have hnb33 := NB101_103.out
              have hnc33 := NB103_101.out
              have hcz34_0 : wc.cell? ⟨gb101, 0, none⟩ = some (.int .u64 a0_0) := (blk_cell BK101.out 0).trans rfl
              have hcz34_1 : wc.cell? ⟨gb101, 1, none⟩ = some (.int .u64 a0_1) := (blk_cell BK101.out 1).trans rfl
              have hcz34_2 : wc.cell? ⟨gb101, 2, none⟩ = some (.int .u64 a0_2) := (blk_cell BK101.out 2).trans rfl
              have hcz34_3 : wc.cell? ⟨gb101, 3, none⟩ = some (.int .i64 a0_3) := (blk_cell BK101.out 3).trans rfl
              have hcz34_4 : wc.cell? ⟨gb101, 4, none⟩ = some (.int .i64 a0_4) := (blk_cell BK101.out 4).trans rfl
              have hcz34_5 : wc.cell? ⟨gb101, 5, none⟩ = some (.bool a0_5) := (blk_cell BK101.out 5).trans rfl
              have hfz34_0 := blk_frozen BK101.out 0
              have hfz34_1 := blk_frozen BK101.out 1
              have hfz34_2 := blk_frozen BK101.out 2
              have hfz34_3 := blk_frozen BK101.out 3
              have hfz34_4 := blk_frozen BK101.out 4
              have hfz34_5 := blk_frozen BK101.out 5
              have hnb35 := NB102_103.out
              have hnc35 := NB103_102.out
              have hcz36_0 : wc.cell? ⟨gb102, 0, none⟩ = some (.int .u64 a1) := (blk_cell BK102.out 0).trans rfl
              have hfz36_0 := blk_frozen BK102.out 0
              have hcz37_0 : wc.cell? ⟨gb103, 0, none⟩ = some (.int .u64 a2) := (blk_cell BK103.out 0).trans rfl
              have hfz37_0 := blk_frozen BK103.out 0
              go_wp2_with (first | (go_at_call 25; (with_reducible refine (sweep_Touches.in_calls a0_0 a1 a2 true _ _ _ ((blk_cell BK102.out 0).trans rfl) ((blk_cell BK103.out 0).trans rfl) A30.out).mono ?_); rintro e w' ⟨rfl, ⟨nd, rfl⟩⟩))
              go_ret
              exact ⟨by first | rfl | (simp [errW_none, errW_some] <;> rfl) | (simp [*, errW_none, errW_some] <;> rfl), by repeat (first | (with_reducible first | exact HB.out | apply below_alloc | apply pw_below_drewN | apply below_drew1 | refine below_set ?_ GE101.out | refine below_set ?_ GE102.out | refine below_set ?_ GE103.out) | exact HB.out)⟩
            · replace c31 := Bool.eq_false_iff.mpr c31
              subst c31
              have H1 : (if a2 > 0 then (if a1 ≥ a0_0 then (some (decide (a1 < a0_1))) else (some false)) else (some false)) = some r := by rw [if_neg (show ¬ (false = true) by decide)] at H; exact H
              clear H
              have H := H1
              clear H1
              by_cases c38 : a2 > 0
              · rw [if_pos c38] at H
                have c38b0 : decide (0 < a2) = true := decide_eq_true c38
                clear c38
                by_cases c39 : a1 ≥ a0_0
                · rw [if_pos c39] at H
                  have c39b0 : decide (a0_0 ≤ a1) = true := decide_eq_true c39
                  clear c39
                  obtain rfl := Option.some.inj H
                  have hnb40 := NB101_102.out
                  have hnc40 := NB102_101.out
                  have hnb41 := NB101_103.out
                  have hnc41 := NB103_101.out
                  have hcz42_0 : wc.cell? ⟨gb101, 0, none⟩ = some (.int .u64 a0_0) := (blk_cell BK101.out 0).trans rfl
                  have hcz42_1 : wc.cell? ⟨gb101, 1, none⟩ = some (.int .u64 a0_1) := (blk_cell BK101.out 1).trans rfl
                  have hcz42_2 : wc.cell? ⟨gb101, 2, none⟩ = some (.int .u64 a0_2) := (blk_cell BK101.out 2).trans rfl
                  have hcz42_3 : wc.cell? ⟨gb101, 3, none⟩ = some (.int .i64 a0_3) := (blk_cell BK101.out 3).trans rfl
                  have hcz42_4 : wc.cell? ⟨gb101, 4, none⟩ = some (.int .i64 a0_4) := (blk_cell BK101.out 4).trans rfl
                  have hcz42_5 : wc.cell? ⟨gb101, 5, none⟩ = some (.bool a0_5) := (blk_cell BK101.out 5).trans rfl
                  have hfz42_0 := blk_frozen BK101.out 0
                  have hfz42_1 := blk_frozen BK101.out 1
                  have hfz42_2 := blk_frozen BK101.out 2
                  have hfz42_3 := blk_frozen BK101.out 3
                  have hfz42_4 := blk_frozen BK101.out 4
                  have hfz42_5 := blk_frozen BK101.out 5
                  have hnb43 := NB102_103.out
                  have hnc43 := NB103_102.out
                  have hcz44_0 : wc.cell? ⟨gb102, 0, none⟩ = some (.int .u64 a1) := (blk_cell BK102.out 0).trans rfl
                  have hfz44_0 := blk_frozen BK102.out 0
                  have hcz45_0 : wc.cell? ⟨gb103, 0, none⟩ = some (.int .u64 a2) := (blk_cell BK103.out 0).trans rfl
                  have hfz45_0 := blk_frozen BK103.out 0
                  go_wp2_with (first | (go_at_call 25; (with_reducible refine (sweep_Touches.in_calls a0_0 a1 a2 false _ _ _ ((blk_cell BK102.out 0).trans rfl) ((blk_cell BK103.out 0).trans rfl) A30.out).mono ?_); rintro e w' ⟨rfl, ⟨nd, rfl⟩⟩))
                  go_ret
                  exact ⟨by first | rfl | (simp [errW_none, errW_some] <;> rfl) | (simp [*, errW_none, errW_some] <;> rfl), by repeat (first | (with_reducible first | exact HB.out | apply below_alloc | apply pw_below_drewN | apply below_drew1 | refine below_set ?_ GE101.out | refine below_set ?_ GE102.out | refine below_set ?_ GE103.out) | exact HB.out)⟩
                · rw [if_neg c39] at H
                  have c39b0 : decide (a0_0 ≤ a1) = false := decide_eq_false c39
                  clear c39
                  obtain rfl := Option.some.inj H
                  have hnb46 := NB101_102.out
                  have hnc46 := NB102_101.out
                  have hnb47 := NB101_103.out
                  have hnc47 := NB103_101.out
                  have hcz48_0 : wc.cell? ⟨gb101, 0, none⟩ = some (.int .u64 a0_0) := (blk_cell BK101.out 0).trans rfl
                  have hcz48_1 : wc.cell? ⟨gb101, 1, none⟩ = some (.int .u64 a0_1) := (blk_cell BK101.out 1).trans rfl
                  have hcz48_2 : wc.cell? ⟨gb101, 2, none⟩ = some (.int .u64 a0_2) := (blk_cell BK101.out 2).trans rfl
                  have hcz48_3 : wc.cell? ⟨gb101, 3, none⟩ = some (.int .i64 a0_3) := (blk_cell BK101.out 3).trans rfl
                  have hcz48_4 : wc.cell? ⟨gb101, 4, none⟩ = some (.int .i64 a0_4) := (blk_cell BK101.out 4).trans rfl
                  have hcz48_5 : wc.cell? ⟨gb101, 5, none⟩ = some (.bool a0_5) := (blk_cell BK101.out 5).trans rfl
                  have hfz48_0 := blk_frozen BK101.out 0
                  have hfz48_1 := blk_frozen BK101.out 1
                  have hfz48_2 := blk_frozen BK101.out 2
                  have hfz48_3 := blk_frozen BK101.out 3
                  have hfz48_4 := blk_frozen BK101.out 4
                  have hfz48_5 := blk_frozen BK101.out 5
                  have hnb49 := NB102_103.out
                  have hnc49 := NB103_102.out
                  have hcz50_0 : wc.cell? ⟨gb102, 0, none⟩ = some (.int .u64 a1) := (blk_cell BK102.out 0).trans rfl
                  have hfz50_0 := blk_frozen BK102.out 0
                  have hcz51_0 : wc.cell? ⟨gb103, 0, none⟩ = some (.int .u64 a2) := (blk_cell BK103.out 0).trans rfl
                  have hfz51_0 := blk_frozen BK103.out 0
                  go_wp2_with (first | (go_at_call 25; (with_reducible refine (sweep_Touches.in_calls a0_0 a1 a2 false _ _ _ ((blk_cell BK102.out 0).trans rfl) ((blk_cell BK103.out 0).trans rfl) A30.out).mono ?_); rintro e w' ⟨rfl, ⟨nd, rfl⟩⟩))
                  go_ret
                  exact ⟨by first | rfl | (simp [errW_none, errW_some] <;> rfl) | (simp [*, errW_none, errW_some] <;> rfl), by repeat (first | (with_reducible first | exact HB.out | apply below_alloc | apply pw_below_drewN | apply below_drew1 | refine below_set ?_ GE101.out | refine below_set ?_ GE102.out | refine below_set ?_ GE103.out) | exact HB.out)⟩
              · rw [if_neg c38] at H
                have c38b0 : decide (0 < a2) = false := decide_eq_false c38
                clear c38
                obtain rfl := Option.some.inj H
                have hnb52 := NB101_102.out
                have hnc52 := NB102_101.out
                have hnb53 := NB101_103.out
                have hnc53 := NB103_101.out
                have hcz54_0 : wc.cell? ⟨gb101, 0, none⟩ = some (.int .u64 a0_0) := (blk_cell BK101.out 0).trans rfl
                have hcz54_1 : wc.cell? ⟨gb101, 1, none⟩ = some (.int .u64 a0_1) := (blk_cell BK101.out 1).trans rfl
                have hcz54_2 : wc.cell? ⟨gb101, 2, none⟩ = some (.int .u64 a0_2) := (blk_cell BK101.out 2).trans rfl
                have hcz54_3 : wc.cell? ⟨gb101, 3, none⟩ = some (.int .i64 a0_3) := (blk_cell BK101.out 3).trans rfl
                have hcz54_4 : wc.cell? ⟨gb101, 4, none⟩ = some (.int .i64 a0_4) := (blk_cell BK101.out 4).trans rfl
                have hcz54_5 : wc.cell? ⟨gb101, 5, none⟩ = some (.bool a0_5) := (blk_cell BK101.out 5).trans rfl
                have hfz54_0 := blk_frozen BK101.out 0
                have hfz54_1 := blk_frozen BK101.out 1
                have hfz54_2 := blk_frozen BK101.out 2
                have hfz54_3 := blk_frozen BK101.out 3
                have hfz54_4 := blk_frozen BK101.out 4
                have hfz54_5 := blk_frozen BK101.out 5
                have hnb55 := NB102_103.out
                have hnc55 := NB103_102.out
                have hcz56_0 : wc.cell? ⟨gb102, 0, none⟩ = some (.int .u64 a1) := (blk_cell BK102.out 0).trans rfl
                have hfz56_0 := blk_frozen BK102.out 0
                have hcz57_0 : wc.cell? ⟨gb103, 0, none⟩ = some (.int .u64 a2) := (blk_cell BK103.out 0).trans rfl
                have hfz57_0 := blk_frozen BK103.out 0
                go_wp2_with (first | (go_at_call 25; (with_reducible refine (sweep_Touches.in_calls a0_0 a1 a2 false _ _ _ ((blk_cell BK102.out 0).trans rfl) ((blk_cell BK103.out 0).trans rfl) A30.out).mono ?_); rintro e w' ⟨rfl, ⟨nd, rfl⟩⟩))
                go_ret
                exact ⟨by first | rfl | (simp [errW_none, errW_some] <;> rfl) | (simp [*, errW_none, errW_some] <;> rfl), by repeat (first | (with_reducible first | exact HB.out | apply below_alloc | apply pw_below_drewN | apply below_drew1 | refine below_set ?_ GE101.out | refine below_set ?_ GE102.out | refine below_set ?_ GE103.out) | exact HB.out)⟩
        · rw [if_neg c25] at H
          have c25b0 : decide (0 ≤ a3) = false := decide_eq_false c25
          clear c25
          replace H := Option.bind_eq_some_iff.mp H
          obtain ⟨t105, A580, H⟩ := H
          replace H : (if t105 = true then (some true) else (if a2 > 0 then (if a1 ≥ a0_0 then (some (decide (a1 < a0_1))) else (some false)) else (some false))) = some r := H
          have A58 := Aside0.mk A580
          clear A580
          by_cases c59 : t105 = true
          · subst c59
            have H1 : (some true) = some r := by rw [if_pos rfl] at H; exact H
            clear H
            have H := H1
            clear H1
            obtain rfl := Option.some.inj H
            have hnb60 := NB101_102.out
            have hnc60 := NB102_101.out
            have hnb61 := NB101_103.out
            have hnc61 := NB103_101.out
            have hcz62_0 : wc.cell? ⟨gb101, 0, none⟩ = some (.int .u64 a0_0) := (blk_cell BK101.out 0).trans rfl
            have hcz62_1 : wc.cell? ⟨gb101, 1, none⟩ = some (.int .u64 a0_1) := (blk_cell BK101.out 1).trans rfl
            have hcz62_2 : wc.cell? ⟨gb101, 2, none⟩ = some (.int .u64 a0_2) := (blk_cell BK101.out 2).trans rfl
            have hcz62_3 : wc.cell? ⟨gb101, 3, none⟩ = some (.int .i64 a0_3) := (blk_cell BK101.out 3).trans rfl
            have hcz62_4 : wc.cell? ⟨gb101, 4, none⟩ = some (.int .i64 a0_4) := (blk_cell BK101.out 4).trans rfl
            have hcz62_5 : wc.cell? ⟨gb101, 5, none⟩ = some (.bool a0_5) := (blk_cell BK101.out 5).trans rfl
            have hfz62_0 := blk_frozen BK101.out 0
            have hfz62_1 := blk_frozen BK101.out 1
            have hfz62_2 := blk_frozen BK101.out 2
            have hfz62_3 := blk_frozen BK101.out 3
            have hfz62_4 := blk_frozen BK101.out 4
            have hfz62_5 := blk_frozen BK101.out 5
            have hnb63 := NB102_103.out
            have hnc63 := NB103_102.out
            have hcz64_0 : wc.cell? ⟨gb102, 0, none⟩ = some (.int .u64 a1) := (blk_cell BK102.out 0).trans rfl
            have hfz64_0 := blk_frozen BK102.out 0
            have hcz65_0 : wc.cell? ⟨gb103, 0, none⟩ = some (.int .u64 a2) := (blk_cell BK103.out 0).trans rfl
            have hfz65_0 := blk_frozen BK103.out 0
            go_wp2_with (first | (go_at_call 25; (with_reducible refine (sweep_Touches.in_calls a0_0 a1 a2 true _ _ _ ((blk_cell BK102.out 0).trans rfl) ((blk_cell BK103.out 0).trans rfl) A58.out).mono ?_); rintro e w' ⟨rfl, ⟨nd, rfl⟩⟩))
            go_ret
            exact ⟨by first | rfl | (simp [errW_none, errW_some] <;> rfl) | (simp [*, errW_none, errW_some] <;> rfl), by repeat (first | (with_reducible first | exact HB.out | apply below_alloc | apply pw_below_drewN | apply below_drew1 | refine below_set ?_ GE101.out | refine below_set ?_ GE102.out | refine below_set ?_ GE103.out) | exact HB.out)⟩
          · replace c59 := Bool.eq_false_iff.mpr c59
            subst c59
            have H1 : (if a2 > 0 then (if a1 ≥ a0_0 then (some (decide (a1 < a0_1))) else (some false)) else (some false)) = some r := by rw [if_neg (show ¬ (false = true) by decide)] at H; exact H
            clear H
            have H := H1
            clear H1
            by_cases c66 : a2 > 0
            · rw [if_pos c66] at H
              have c66b0 : decide (0 < a2) = true := decide_eq_true c66
              clear c66
              by_cases c67 : a1 ≥ a0_0
              · rw [if_pos c67] at H
                have c67b0 : decide (a0_0 ≤ a1) = true := decide_eq_true c67
                clear c67
                obtain rfl := Option.some.inj H
                have hnb68 := NB101_102.out
                have hnc68 := NB102_101.out
                have hnb69 := NB101_103.out
                have hnc69 := NB103_101.out
                have hcz70_0 : wc.cell? ⟨gb101, 0, none⟩ = some (.int .u64 a0_0) := (blk_cell BK101.out 0).trans rfl
                have hcz70_1 : wc.cell? ⟨gb101, 1, none⟩ = some (.int .u64 a0_1) := (blk_cell BK101.out 1).trans rfl
                have hcz70_2 : wc.cell? ⟨gb101, 2, none⟩ = some (.int .u64 a0_2) := (blk_cell BK101.out 2).trans rfl
                have hcz70_3 : wc.cell? ⟨gb101, 3, none⟩ = some (.int .i64 a0_3) := (blk_cell BK101.out 3).trans rfl
                have hcz70_4 : wc.cell? ⟨gb101, 4, none⟩ = some (.int .i64 a0_4) := (blk_cell BK101.out 4).trans rfl
                have hcz70_5 : wc.cell? ⟨gb101, 5, none⟩ = some (.bool a0_5) := (blk_cell BK101.out 5).trans rfl
                have hfz70_0 := blk_frozen BK101.out 0
                have hfz70_1 := blk_frozen BK101.out 1
                have hfz70_2 := blk_frozen BK101.out 2
                have hfz70_3 := blk_frozen BK101.out 3
                have hfz70_4 := blk_frozen BK101.out 4
                have hfz70_5 := blk_frozen BK101.out 5
                have hnb71 := NB102_103.out
                have hnc71 := NB103_102.out
                have hcz72_0 : wc.cell? ⟨gb102, 0, none⟩ = some (.int .u64 a1) := (blk_cell BK102.out 0).trans rfl
                have hfz72_0 := blk_frozen BK102.out 0
                have hcz73_0 : wc.cell? ⟨gb103, 0, none⟩ = some (.int .u64 a2) := (blk_cell BK103.out 0).trans rfl
                have hfz73_0 := blk_frozen BK103.out 0
                go_wp2_with (first | (go_at_call 25; (with_reducible refine (sweep_Touches.in_calls a0_0 a1 a2 false _ _ _ ((blk_cell BK102.out 0).trans rfl) ((blk_cell BK103.out 0).trans rfl) A58.out).mono ?_); rintro e w' ⟨rfl, ⟨nd, rfl⟩⟩))
                go_ret
                exact ⟨by first | rfl | (simp [errW_none, errW_some] <;> rfl) | (simp [*, errW_none, errW_some] <;> rfl), by repeat (first | (with_reducible first | exact HB.out | apply below_alloc | apply pw_below_drewN | apply below_drew1 | refine below_set ?_ GE101.out | refine below_set ?_ GE102.out | refine below_set ?_ GE103.out) | exact HB.out)⟩
              · rw [if_neg c67] at H
                have c67b0 : decide (a0_0 ≤ a1) = false := decide_eq_false c67
                clear c67
                obtain rfl := Option.some.inj H
                have hnb74 := NB101_102.out
                have hnc74 := NB102_101.out
                have hnb75 := NB101_103.out
                have hnc75 := NB103_101.out
                have hcz76_0 : wc.cell? ⟨gb101, 0, none⟩ = some (.int .u64 a0_0) := (blk_cell BK101.out 0).trans rfl
                have hcz76_1 : wc.cell? ⟨gb101, 1, none⟩ = some (.int .u64 a0_1) := (blk_cell BK101.out 1).trans rfl
                have hcz76_2 : wc.cell? ⟨gb101, 2, none⟩ = some (.int .u64 a0_2) := (blk_cell BK101.out 2).trans rfl
                have hcz76_3 : wc.cell? ⟨gb101, 3, none⟩ = some (.int .i64 a0_3) := (blk_cell BK101.out 3).trans rfl
                have hcz76_4 : wc.cell? ⟨gb101, 4, none⟩ = some (.int .i64 a0_4) := (blk_cell BK101.out 4).trans rfl
                have hcz76_5 : wc.cell? ⟨gb101, 5, none⟩ = some (.bool a0_5) := (blk_cell BK101.out 5).trans rfl
                have hfz76_0 := blk_frozen BK101.out 0
                have hfz76_1 := blk_frozen BK101.out 1
                have hfz76_2 := blk_frozen BK101.out 2
                have hfz76_3 := blk_frozen BK101.out 3
                have hfz76_4 := blk_frozen BK101.out 4
                have hfz76_5 := blk_frozen BK101.out 5
                have hnb77 := NB102_103.out
                have hnc77 := NB103_102.out
                have hcz78_0 : wc.cell? ⟨gb102, 0, none⟩ = some (.int .u64 a1) := (blk_cell BK102.out 0).trans rfl
                have hfz78_0 := blk_frozen BK102.out 0
                have hcz79_0 : wc.cell? ⟨gb103, 0, none⟩ = some (.int .u64 a2) := (blk_cell BK103.out 0).trans rfl
                have hfz79_0 := blk_frozen BK103.out 0
                go_wp2_with (first | (go_at_call 25; (with_reducible refine (sweep_Touches.in_calls a0_0 a1 a2 false _ _ _ ((blk_cell BK102.out 0).trans rfl) ((blk_cell BK103.out 0).trans rfl) A58.out).mono ?_); rintro e w' ⟨rfl, ⟨nd, rfl⟩⟩))
                go_ret
                exact ⟨by first | rfl | (simp [errW_none, errW_some] <;> rfl) | (simp [*, errW_none, errW_some] <;> rfl), by repeat (first | (with_reducible first | exact HB.out | apply below_alloc | apply pw_below_drewN | apply below_drew1 | refine below_set ?_ GE101.out | refine below_set ?_ GE102.out | refine below_set ?_ GE103.out) | exact HB.out)⟩
            · rw [if_neg c66] at H
              have c66b0 : decide (0 < a2) = false := decide_eq_false c66
              clear c66
              obtain rfl := Option.some.inj H
              have hnb80 := NB101_102.out
              have hnc80 := NB102_101.out
              have hnb81 := NB101_103.out
              have hnc81 := NB103_101.out
              have hcz82_0 : wc.cell? ⟨gb101, 0, none⟩ = some (.int .u64 a0_0) := (blk_cell BK101.out 0).trans rfl
              have hcz82_1 : wc.cell? ⟨gb101, 1, none⟩ = some (.int .u64 a0_1) := (blk_cell BK101.out 1).trans rfl
              have hcz82_2 : wc.cell? ⟨gb101, 2, none⟩ = some (.int .u64 a0_2) := (blk_cell BK101.out 2).trans rfl
              have hcz82_3 : wc.cell? ⟨gb101, 3, none⟩ = some (.int .i64 a0_3) := (blk_cell BK101.out 3).trans rfl
              have hcz82_4 : wc.cell? ⟨gb101, 4, none⟩ = some (.int .i64 a0_4) := (blk_cell BK101.out 4).trans rfl
              have hcz82_5 : wc.cell? ⟨gb101, 5, none⟩ = some (.bool a0_5) := (blk_cell BK101.out 5).trans rfl
              have hfz82_0 := blk_frozen BK101.out 0
              have hfz82_1 := blk_frozen BK101.out 1
              have hfz82_2 := blk_frozen BK101.out 2
              have hfz82_3 := blk_frozen BK101.out 3
              have hfz82_4 := blk_frozen BK101.out 4
              have hfz82_5 := blk_frozen BK101.out 5
              have hnb83 := NB102_103.out
              have hnc83 := NB103_102.out
              have hcz84_0 : wc.cell? ⟨gb102, 0, none⟩ = some (.int .u64 a1) := (blk_cell BK102.out 0).trans rfl
              have hfz84_0 := blk_frozen BK102.out 0
              have hcz85_0 : wc.cell? ⟨gb103, 0, none⟩ = some (.int .u64 a2) := (blk_cell BK103.out 0).trans rfl
              have hfz85_0 := blk_frozen BK103.out 0
              go_wp2_with (first | (go_at_call 25; (with_reducible refine (sweep_Touches.in_calls a0_0 a1 a2 false _ _ _ ((blk_cell BK102.out 0).trans rfl) ((blk_cell BK103.out 0).trans rfl) A58.out).mono ?_); rintro e w' ⟨rfl, ⟨nd, rfl⟩⟩))
              go_ret
              exact ⟨by first | rfl | (simp [errW_none, errW_some] <;> rfl) | (simp [*, errW_none, errW_some] <;> rfl), by repeat (first | (with_reducible first | exact HB.out | apply below_alloc | apply pw_below_drewN | apply below_drew1 | refine below_set ?_ GE101.out | refine below_set ?_ GE102.out | refine below_set ?_ GE103.out) | exact HB.out)⟩

/-! ### curtilagelaw22_of: function 24 -/
def curtilagelaw22_of.f (a0 : Int) (a1 : Int) (a2 : Int) : Option (Int × Int × Int × Int × Int × Bool) := some (a0, a1, a0, 3, a2, true)
set_option maxHeartbeats 8000000 in
set_option maxRecDepth 100000 in
theorem curtilagelaw22_of.calls (a0 : Int) (a1 : Int) (a2 : Int) (r1 : Int) (r2 : Int) (r3 : Int) (r4 : Int) (r5 : Int) (r6 : Bool) (w : World) (h : curtilagelaw22_of.f a0 a1 a2 = some (r1, r2, r3, r4, r5, r6)) :
    Calls Try.prog 24 #[.int .u64 a0, .int .u64 a1, .int .i64 a2] w fun e w' => e = .returned (.agg #[.int .u64 r1, .int .u64 r2, .int .u64 r3, .int .i64 r4, .int .i64 r5, .bool r6]) ∧ Below w.heap.size w w' := by
  have hu24 := Try.underlying24
  have HB := Aside0.mk (Below.refl w.heap.size w)
  have H : (some (a0, a1, a0, 3, a2, true)) = some (r1, r2, r3, r4, r5, r6) := h
  clear h
  simp only [Option.some.injEq, Prod.mk.injEq] at H
  obtain ⟨rfl, rfl, rfl, rfl, rfl, rfl⟩ := H
  go_enter Try.func24, Try.ntmps24
  go_wp2_with (first | ((with_reducible refine gate_dst (N := 6) rfl ?_); refine box_event ?hg (N := 6) ?hd (cs := #[.int .u64 0, .int .u64 0, .int .u64 0, .int .i64 0, .int .i64 0, .bool false]) (t := 24) ?hr ?_; (case hd => rfl); (case hg => rfl); (case hr => first | (go_simp; done) | (go_simp; rfl)); intro gb106 hg w4 hbox hb; have n0_ := Aside0.mk (below_step (by repeat (first | (with_reducible first | exact HB.out | apply below_alloc | apply pw_below_drewN | apply below_drew1) | exact HB.out)) hb); have n1_ := Aside0.mk (hbox); have n2_ := Aside0.mk ((by rw [hg]; exact (below_size (by repeat (first | (with_reducible first | exact HB.out | apply below_alloc | apply pw_below_drewN | apply below_drew1) | exact HB.out))) : w.heap.size ≤ gb106)); have n3_ := Aside0.mk ((by rw [hg]; exact (below_size (by repeat (first | (with_reducible first | exact HB.out | apply below_alloc | apply pw_below_drewN | apply below_drew1) | exact HB.out))) : w.heap.size ≤ gb106)); clear HB; have HB := n0_; have BK106 := n1_; have GW106 := n2_; have GE106 := n3_; clear n0_ n1_ n2_ n3_; clear hb hbox hg; have hcz5_0 : w4.cell? ⟨gb106, 0, none⟩ = some (.int .u64 0) := (blk_cell BK106.out 0).trans rfl; have hcz5_1 : w4.cell? ⟨gb106, 1, none⟩ = some (.int .u64 0) := (blk_cell BK106.out 1).trans rfl; have hcz5_2 : w4.cell? ⟨gb106, 2, none⟩ = some (.int .u64 0) := (blk_cell BK106.out 2).trans rfl; have hcz5_3 : w4.cell? ⟨gb106, 3, none⟩ = some (.int .i64 0) := (blk_cell BK106.out 3).trans rfl; have hcz5_4 : w4.cell? ⟨gb106, 4, none⟩ = some (.int .i64 0) := (blk_cell BK106.out 4).trans rfl; have hcz5_5 : w4.cell? ⟨gb106, 5, none⟩ = some (.bool false) := (blk_cell BK106.out 5).trans rfl; have hfz5_0 := blk_frozen BK106.out 0; have hfz5_1 := blk_frozen BK106.out 1; have hfz5_2 := blk_frozen BK106.out 2; have hfz5_3 := blk_frozen BK106.out 3; have hfz5_4 := blk_frozen BK106.out 4; have hfz5_5 := blk_frozen BK106.out 5))
  refine bodyPost_ret (results_cell_row rfl _ _ gb106 24 #[.int .u64 a0, .int .u64 a1, .int .u64 a0, .int .i64 3, .int .i64 a2, .bool true] (0, 0) _ rfl (by (with_reducible repeat (first | refine blk_drewN ?_ _ | refine blk_drew ?_ | refine blk_alloc ?_ _)); refine blk_put (cs := #[.int .u64 a0, .int .u64 a1, .int .u64 a0, .int .i64 3, .int .i64 a2, .bool false]) ?_ 5 _ rfl; (with_reducible repeat (first | refine blk_drewN ?_ _ | refine blk_drew ?_ | refine blk_alloc ?_ _)); refine blk_put (cs := #[.int .u64 a0, .int .u64 a1, .int .u64 a0, .int .i64 3, .int .i64 0, .bool false]) ?_ 4 _ rfl; (with_reducible repeat (first | refine blk_drewN ?_ _ | refine blk_drew ?_ | refine blk_alloc ?_ _)); refine blk_put (cs := #[.int .u64 a0, .int .u64 a1, .int .u64 a0, .int .i64 0, .int .i64 0, .bool false]) ?_ 3 _ rfl; (with_reducible repeat (first | refine blk_drewN ?_ _ | refine blk_drew ?_ | refine blk_alloc ?_ _)); refine blk_put (cs := #[.int .u64 a0, .int .u64 a1, .int .u64 0, .int .i64 0, .int .i64 0, .bool false]) ?_ 2 _ rfl; (with_reducible repeat (first | refine blk_drewN ?_ _ | refine blk_drew ?_ | refine blk_alloc ?_ _)); refine blk_put (cs := #[.int .u64 a0, .int .u64 0, .int .u64 0, .int .i64 0, .int .i64 0, .bool false]) ?_ 1 _ rfl; (with_reducible repeat (first | refine blk_drewN ?_ _ | refine blk_drew ?_ | refine blk_alloc ?_ _)); refine blk_put (cs := #[.int .u64 0, .int .u64 0, .int .u64 0, .int .i64 0, .int .i64 0, .bool false]) ?_ 0 _ rfl; (with_reducible repeat (first | refine blk_drewN ?_ _ | refine blk_drew ?_ | refine blk_alloc ?_ _)); exact BK106.out) Try.underlying24 rfl (by kernel_rfl)) rfl ?_
  exact ⟨by first | rfl | (simp [errW_none, errW_some] <;> rfl) | (simp [*, errW_none, errW_some] <;> rfl), by repeat (first | (with_reducible first | exact HB.out | apply below_alloc | apply pw_below_drewN | apply below_drew1 | refine below_set ?_ GE106.out) | exact HB.out)⟩

/-! ### curtilagelaw22_awake: function 7 -/
def curtilagelaw22_awake.f (k : Nat)  : Option (Bool) := (curtilagelaw22_of.f 0 256 (-1)).bind fun bt107 => ((sweep_Touches.f k bt107.1 bt107.2.1 bt107.2.2.1 bt107.2.2.2.1 bt107.2.2.2.2.1 bt107.2.2.2.2.2 256 256 9).bind fun t113 => ((curtilagelaw22_of.f 0 257 (-1)).bind fun bt114 => ((sweep_Touches.f k bt114.1 bt114.2.1 bt114.2.2.1 bt114.2.2.2.1 bt114.2.2.2.2.1 bt114.2.2.2.2.2 256 256 9).bind fun t120 => ((curtilagelaw22_of.f 511 600 (-1)).bind fun bt121 => ((sweep_Touches.f k bt121.1 bt121.2.1 bt121.2.2.1 bt121.2.2.2.1 bt121.2.2.2.2.1 bt121.2.2.2.2.2 256 256 9).bind fun t127 => ((curtilagelaw22_of.f 512 600 (-1)).bind fun bt128 => ((sweep_Touches.f k bt128.1 bt128.2.1 bt128.2.2.1 bt128.2.2.2.1 bt128.2.2.2.2.1 bt128.2.2.2.2.2 256 256 9).bind fun t134 => ((curtilagelaw22_of.f 300 300 (-1)).bind fun bt135 => ((sweep_Touches.f k bt135.1 bt135.2.1 bt135.2.2.1 bt135.2.2.2.1 bt135.2.2.2.2.1 bt135.2.2.2.2.2 256 256 9).bind fun t141 => ((curtilagelaw22_of.f 0 9 9).bind fun bt142 => ((sweep_Touches.f k bt142.1 bt142.2.1 bt142.2.2.1 bt142.2.2.2.1 bt142.2.2.2.2.1 bt142.2.2.2.2.2 256 256 9).bind fun t148 => ((curtilagelaw22_of.f 300 400 9).bind fun bt149 => ((sweep_Touches.f k bt149.1 bt149.2.1 bt149.2.2.1 bt149.2.2.2.1 bt149.2.2.2.2.1 false 256 256 9).bind fun t156 => (if t113 = true then (some false) else (if t120 = true then (if t127 = true then (if t134 = true then (some false) else (if t141 = true then (if t148 = true then (some (!t156)) else (some false)) else (some false))) else (some false)) else (some false))))))))))))))))
theorem curtilagelaw22_awake.mono : ∀ k, LeO (curtilagelaw22_awake.f k ) (curtilagelaw22_awake.f (k + 1) ) := by
  intro  k
  unfold curtilagelaw22_awake.f
  repeat' first
      | (with_reducible exact sweep_Touches.mono _ _ _ _ _ _ _ _ _ _)
      | (with_reducible exact LeO.refl _)
      | (with_reducible exact LeO.none _)
      | (with_reducible refine LeO.ite ?_ ?_)
      | (with_reducible refine LeO.bind ?_ (fun _ => ?_))
      | exact sweep_Touches.mono _ _ _ _ _ _ _ _ _ _
      | exact LeO.none _
      | refine LeO.ite ?_ ?_
      | refine LeO.bind ?_ (fun _ => ?_)
theorem gen_wp {P : Program} {c : Code} {K : Exit → Act → World → Prop} {a : Act} {W : World} {Q : World → Prop} (h : Q W) (k : ∀ W, Q W → c.wp P K a W) : c.wp P K a W := k W h
set_option maxHeartbeats 8000000 in
set_option maxRecDepth 100000 in
theorem curtilagelaw22_awake.calls (k : Nat)  (r : Bool) (w : World) (h : curtilagelaw22_awake.f k  = some r) :
    Calls Try.prog 7 #[] w fun e w' => e = .returned (.bool r) ∧ Below w.heap.size w w' := by
  have HT := Aside0.mk (Option.some.inj ((more_rounds (g := curtilagelaw22_awake.f) curtilagelaw22_awake.mono k 40 r h).symm.trans (show curtilagelaw22_awake.f (k + 40) = some true by kernel_rfl)))
  have hu24 := Try.underlying24
  have HB := Aside0.mk (Below.refl w.heap.size w)
  have H : ((curtilagelaw22_of.f 0 256 (-1)).bind fun bt107 => ((sweep_Touches.f k bt107.1 bt107.2.1 bt107.2.2.1 bt107.2.2.2.1 bt107.2.2.2.2.1 bt107.2.2.2.2.2 256 256 9).bind fun t113 => ((curtilagelaw22_of.f 0 257 (-1)).bind fun bt114 => ((sweep_Touches.f k bt114.1 bt114.2.1 bt114.2.2.1 bt114.2.2.2.1 bt114.2.2.2.2.1 bt114.2.2.2.2.2 256 256 9).bind fun t120 => ((curtilagelaw22_of.f 511 600 (-1)).bind fun bt121 => ((sweep_Touches.f k bt121.1 bt121.2.1 bt121.2.2.1 bt121.2.2.2.1 bt121.2.2.2.2.1 bt121.2.2.2.2.2 256 256 9).bind fun t127 => ((curtilagelaw22_of.f 512 600 (-1)).bind fun bt128 => ((sweep_Touches.f k bt128.1 bt128.2.1 bt128.2.2.1 bt128.2.2.2.1 bt128.2.2.2.2.1 bt128.2.2.2.2.2 256 256 9).bind fun t134 => ((curtilagelaw22_of.f 300 300 (-1)).bind fun bt135 => ((sweep_Touches.f k bt135.1 bt135.2.1 bt135.2.2.1 bt135.2.2.2.1 bt135.2.2.2.2.1 bt135.2.2.2.2.2 256 256 9).bind fun t141 => ((curtilagelaw22_of.f 0 9 9).bind fun bt142 => ((sweep_Touches.f k bt142.1 bt142.2.1 bt142.2.2.1 bt142.2.2.2.1 bt142.2.2.2.2.1 bt142.2.2.2.2.2 256 256 9).bind fun t148 => ((curtilagelaw22_of.f 300 400 9).bind fun bt149 => ((sweep_Touches.f k bt149.1 bt149.2.1 bt149.2.2.1 bt149.2.2.2.1 bt149.2.2.2.2.1 false 256 256 9).bind fun t156 => (if t113 = true then (some false) else (if t120 = true then (if t127 = true then (if t134 = true then (some false) else (if t141 = true then (if t148 = true then (some (!t156)) else (some false)) else (some false))) else (some false)) else (some false))))))))))))))))) = some r := h
  clear h
  replace H := Option.bind_eq_some_iff.mp H
  obtain ⟨⟨t107, t108, t109, t110, t111, t112⟩, A10, H⟩ := H
  replace H : ((sweep_Touches.f k t107 t108 t109 t110 t111 t112 256 256 9).bind fun t113 => ((curtilagelaw22_of.f 0 257 (-1)).bind fun bt114 => ((sweep_Touches.f k bt114.1 bt114.2.1 bt114.2.2.1 bt114.2.2.2.1 bt114.2.2.2.2.1 bt114.2.2.2.2.2 256 256 9).bind fun t120 => ((curtilagelaw22_of.f 511 600 (-1)).bind fun bt121 => ((sweep_Touches.f k bt121.1 bt121.2.1 bt121.2.2.1 bt121.2.2.2.1 bt121.2.2.2.2.1 bt121.2.2.2.2.2 256 256 9).bind fun t127 => ((curtilagelaw22_of.f 512 600 (-1)).bind fun bt128 => ((sweep_Touches.f k bt128.1 bt128.2.1 bt128.2.2.1 bt128.2.2.2.1 bt128.2.2.2.2.1 bt128.2.2.2.2.2 256 256 9).bind fun t134 => ((curtilagelaw22_of.f 300 300 (-1)).bind fun bt135 => ((sweep_Touches.f k bt135.1 bt135.2.1 bt135.2.2.1 bt135.2.2.2.1 bt135.2.2.2.2.1 bt135.2.2.2.2.2 256 256 9).bind fun t141 => ((curtilagelaw22_of.f 0 9 9).bind fun bt142 => ((sweep_Touches.f k bt142.1 bt142.2.1 bt142.2.2.1 bt142.2.2.2.1 bt142.2.2.2.2.1 bt142.2.2.2.2.2 256 256 9).bind fun t148 => ((curtilagelaw22_of.f 300 400 9).bind fun bt149 => ((sweep_Touches.f k bt149.1 bt149.2.1 bt149.2.2.1 bt149.2.2.2.1 bt149.2.2.2.2.1 false 256 256 9).bind fun t156 => (if t113 = true then (some false) else (if t120 = true then (if t127 = true then (if t134 = true then (some false) else (if t141 = true then (if t148 = true then (some (!t156)) else (some false)) else (some false))) else (some false)) else (some false)))))))))))))))) = some r := H
  have A1 := Aside0.mk A10
  clear A10
  replace H := Option.bind_eq_some_iff.mp H
  obtain ⟨t113, A20, H⟩ := H
  replace H : ((curtilagelaw22_of.f 0 257 (-1)).bind fun bt114 => ((sweep_Touches.f k bt114.1 bt114.2.1 bt114.2.2.1 bt114.2.2.2.1 bt114.2.2.2.2.1 bt114.2.2.2.2.2 256 256 9).bind fun t120 => ((curtilagelaw22_of.f 511 600 (-1)).bind fun bt121 => ((sweep_Touches.f k bt121.1 bt121.2.1 bt121.2.2.1 bt121.2.2.2.1 bt121.2.2.2.2.1 bt121.2.2.2.2.2 256 256 9).bind fun t127 => ((curtilagelaw22_of.f 512 600 (-1)).bind fun bt128 => ((sweep_Touches.f k bt128.1 bt128.2.1 bt128.2.2.1 bt128.2.2.2.1 bt128.2.2.2.2.1 bt128.2.2.2.2.2 256 256 9).bind fun t134 => ((curtilagelaw22_of.f 300 300 (-1)).bind fun bt135 => ((sweep_Touches.f k bt135.1 bt135.2.1 bt135.2.2.1 bt135.2.2.2.1 bt135.2.2.2.2.1 bt135.2.2.2.2.2 256 256 9).bind fun t141 => ((curtilagelaw22_of.f 0 9 9).bind fun bt142 => ((sweep_Touches.f k bt142.1 bt142.2.1 bt142.2.2.1 bt142.2.2.2.1 bt142.2.2.2.2.1 bt142.2.2.2.2.2 256 256 9).bind fun t148 => ((curtilagelaw22_of.f 300 400 9).bind fun bt149 => ((sweep_Touches.f k bt149.1 bt149.2.1 bt149.2.2.1 bt149.2.2.2.1 bt149.2.2.2.2.1 false 256 256 9).bind fun t156 => (if t113 = true then (some false) else (if t120 = true then (if t127 = true then (if t134 = true then (some false) else (if t141 = true then (if t148 = true then (some (!t156)) else (some false)) else (some false))) else (some false)) else (some false))))))))))))))) = some r := H
  have A2 := Aside0.mk A20
  clear A20
  replace H := Option.bind_eq_some_iff.mp H
  obtain ⟨⟨t114, t115, t116, t117, t118, t119⟩, A30, H⟩ := H
  replace H : ((sweep_Touches.f k t114 t115 t116 t117 t118 t119 256 256 9).bind fun t120 => ((curtilagelaw22_of.f 511 600 (-1)).bind fun bt121 => ((sweep_Touches.f k bt121.1 bt121.2.1 bt121.2.2.1 bt121.2.2.2.1 bt121.2.2.2.2.1 bt121.2.2.2.2.2 256 256 9).bind fun t127 => ((curtilagelaw22_of.f 512 600 (-1)).bind fun bt128 => ((sweep_Touches.f k bt128.1 bt128.2.1 bt128.2.2.1 bt128.2.2.2.1 bt128.2.2.2.2.1 bt128.2.2.2.2.2 256 256 9).bind fun t134 => ((curtilagelaw22_of.f 300 300 (-1)).bind fun bt135 => ((sweep_Touches.f k bt135.1 bt135.2.1 bt135.2.2.1 bt135.2.2.2.1 bt135.2.2.2.2.1 bt135.2.2.2.2.2 256 256 9).bind fun t141 => ((curtilagelaw22_of.f 0 9 9).bind fun bt142 => ((sweep_Touches.f k bt142.1 bt142.2.1 bt142.2.2.1 bt142.2.2.2.1 bt142.2.2.2.2.1 bt142.2.2.2.2.2 256 256 9).bind fun t148 => ((curtilagelaw22_of.f 300 400 9).bind fun bt149 => ((sweep_Touches.f k bt149.1 bt149.2.1 bt149.2.2.1 bt149.2.2.2.1 bt149.2.2.2.2.1 false 256 256 9).bind fun t156 => (if t113 = true then (some false) else (if t120 = true then (if t127 = true then (if t134 = true then (some false) else (if t141 = true then (if t148 = true then (some (!t156)) else (some false)) else (some false))) else (some false)) else (some false)))))))))))))) = some r := H
  have A3 := Aside0.mk A30
  clear A30
  replace H := Option.bind_eq_some_iff.mp H
  obtain ⟨t120, A40, H⟩ := H
  replace H : ((curtilagelaw22_of.f 511 600 (-1)).bind fun bt121 => ((sweep_Touches.f k bt121.1 bt121.2.1 bt121.2.2.1 bt121.2.2.2.1 bt121.2.2.2.2.1 bt121.2.2.2.2.2 256 256 9).bind fun t127 => ((curtilagelaw22_of.f 512 600 (-1)).bind fun bt128 => ((sweep_Touches.f k bt128.1 bt128.2.1 bt128.2.2.1 bt128.2.2.2.1 bt128.2.2.2.2.1 bt128.2.2.2.2.2 256 256 9).bind fun t134 => ((curtilagelaw22_of.f 300 300 (-1)).bind fun bt135 => ((sweep_Touches.f k bt135.1 bt135.2.1 bt135.2.2.1 bt135.2.2.2.1 bt135.2.2.2.2.1 bt135.2.2.2.2.2 256 256 9).bind fun t141 => ((curtilagelaw22_of.f 0 9 9).bind fun bt142 => ((sweep_Touches.f k bt142.1 bt142.2.1 bt142.2.2.1 bt142.2.2.2.1 bt142.2.2.2.2.1 bt142.2.2.2.2.2 256 256 9).bind fun t148 => ((curtilagelaw22_of.f 300 400 9).bind fun bt149 => ((sweep_Touches.f k bt149.1 bt149.2.1 bt149.2.2.1 bt149.2.2.2.1 bt149.2.2.2.2.1 false 256 256 9).bind fun t156 => (if t113 = true then (some false) else (if t120 = true then (if t127 = true then (if t134 = true then (some false) else (if t141 = true then (if t148 = true then (some (!t156)) else (some false)) else (some false))) else (some false)) else (some false))))))))))))) = some r := H
  have A4 := Aside0.mk A40
  clear A40
  replace H := Option.bind_eq_some_iff.mp H
  obtain ⟨⟨t121, t122, t123, t124, t125, t126⟩, A50, H⟩ := H
  replace H : ((sweep_Touches.f k t121 t122 t123 t124 t125 t126 256 256 9).bind fun t127 => ((curtilagelaw22_of.f 512 600 (-1)).bind fun bt128 => ((sweep_Touches.f k bt128.1 bt128.2.1 bt128.2.2.1 bt128.2.2.2.1 bt128.2.2.2.2.1 bt128.2.2.2.2.2 256 256 9).bind fun t134 => ((curtilagelaw22_of.f 300 300 (-1)).bind fun bt135 => ((sweep_Touches.f k bt135.1 bt135.2.1 bt135.2.2.1 bt135.2.2.2.1 bt135.2.2.2.2.1 bt135.2.2.2.2.2 256 256 9).bind fun t141 => ((curtilagelaw22_of.f 0 9 9).bind fun bt142 => ((sweep_Touches.f k bt142.1 bt142.2.1 bt142.2.2.1 bt142.2.2.2.1 bt142.2.2.2.2.1 bt142.2.2.2.2.2 256 256 9).bind fun t148 => ((curtilagelaw22_of.f 300 400 9).bind fun bt149 => ((sweep_Touches.f k bt149.1 bt149.2.1 bt149.2.2.1 bt149.2.2.2.1 bt149.2.2.2.2.1 false 256 256 9).bind fun t156 => (if t113 = true then (some false) else (if t120 = true then (if t127 = true then (if t134 = true then (some false) else (if t141 = true then (if t148 = true then (some (!t156)) else (some false)) else (some false))) else (some false)) else (some false)))))))))))) = some r := H
  have A5 := Aside0.mk A50
  clear A50
  replace H := Option.bind_eq_some_iff.mp H
  obtain ⟨t127, A60, H⟩ := H
  replace H : ((curtilagelaw22_of.f 512 600 (-1)).bind fun bt128 => ((sweep_Touches.f k bt128.1 bt128.2.1 bt128.2.2.1 bt128.2.2.2.1 bt128.2.2.2.2.1 bt128.2.2.2.2.2 256 256 9).bind fun t134 => ((curtilagelaw22_of.f 300 300 (-1)).bind fun bt135 => ((sweep_Touches.f k bt135.1 bt135.2.1 bt135.2.2.1 bt135.2.2.2.1 bt135.2.2.2.2.1 bt135.2.2.2.2.2 256 256 9).bind fun t141 => ((curtilagelaw22_of.f 0 9 9).bind fun bt142 => ((sweep_Touches.f k bt142.1 bt142.2.1 bt142.2.2.1 bt142.2.2.2.1 bt142.2.2.2.2.1 bt142.2.2.2.2.2 256 256 9).bind fun t148 => ((curtilagelaw22_of.f 300 400 9).bind fun bt149 => ((sweep_Touches.f k bt149.1 bt149.2.1 bt149.2.2.1 bt149.2.2.2.1 bt149.2.2.2.2.1 false 256 256 9).bind fun t156 => (if t113 = true then (some false) else (if t120 = true then (if t127 = true then (if t134 = true then (some false) else (if t141 = true then (if t148 = true then (some (!t156)) else (some false)) else (some false))) else (some false)) else (some false))))))))))) = some r := H
  have A6 := Aside0.mk A60
  clear A60
  replace H := Option.bind_eq_some_iff.mp H
  obtain ⟨⟨t128, t129, t130, t131, t132, t133⟩, A70, H⟩ := H
  replace H : ((sweep_Touches.f k t128 t129 t130 t131 t132 t133 256 256 9).bind fun t134 => ((curtilagelaw22_of.f 300 300 (-1)).bind fun bt135 => ((sweep_Touches.f k bt135.1 bt135.2.1 bt135.2.2.1 bt135.2.2.2.1 bt135.2.2.2.2.1 bt135.2.2.2.2.2 256 256 9).bind fun t141 => ((curtilagelaw22_of.f 0 9 9).bind fun bt142 => ((sweep_Touches.f k bt142.1 bt142.2.1 bt142.2.2.1 bt142.2.2.2.1 bt142.2.2.2.2.1 bt142.2.2.2.2.2 256 256 9).bind fun t148 => ((curtilagelaw22_of.f 300 400 9).bind fun bt149 => ((sweep_Touches.f k bt149.1 bt149.2.1 bt149.2.2.1 bt149.2.2.2.1 bt149.2.2.2.2.1 false 256 256 9).bind fun t156 => (if t113 = true then (some false) else (if t120 = true then (if t127 = true then (if t134 = true then (some false) else (if t141 = true then (if t148 = true then (some (!t156)) else (some false)) else (some false))) else (some false)) else (some false)))))))))) = some r := H
  have A7 := Aside0.mk A70
  clear A70
  replace H := Option.bind_eq_some_iff.mp H
  obtain ⟨t134, A80, H⟩ := H
  replace H : ((curtilagelaw22_of.f 300 300 (-1)).bind fun bt135 => ((sweep_Touches.f k bt135.1 bt135.2.1 bt135.2.2.1 bt135.2.2.2.1 bt135.2.2.2.2.1 bt135.2.2.2.2.2 256 256 9).bind fun t141 => ((curtilagelaw22_of.f 0 9 9).bind fun bt142 => ((sweep_Touches.f k bt142.1 bt142.2.1 bt142.2.2.1 bt142.2.2.2.1 bt142.2.2.2.2.1 bt142.2.2.2.2.2 256 256 9).bind fun t148 => ((curtilagelaw22_of.f 300 400 9).bind fun bt149 => ((sweep_Touches.f k bt149.1 bt149.2.1 bt149.2.2.1 bt149.2.2.2.1 bt149.2.2.2.2.1 false 256 256 9).bind fun t156 => (if t113 = true then (some false) else (if t120 = true then (if t127 = true then (if t134 = true then (some false) else (if t141 = true then (if t148 = true then (some (!t156)) else (some false)) else (some false))) else (some false)) else (some false))))))))) = some r := H
  have A8 := Aside0.mk A80
  clear A80
  replace H := Option.bind_eq_some_iff.mp H
  obtain ⟨⟨t135, t136, t137, t138, t139, t140⟩, A90, H⟩ := H
  replace H : ((sweep_Touches.f k t135 t136 t137 t138 t139 t140 256 256 9).bind fun t141 => ((curtilagelaw22_of.f 0 9 9).bind fun bt142 => ((sweep_Touches.f k bt142.1 bt142.2.1 bt142.2.2.1 bt142.2.2.2.1 bt142.2.2.2.2.1 bt142.2.2.2.2.2 256 256 9).bind fun t148 => ((curtilagelaw22_of.f 300 400 9).bind fun bt149 => ((sweep_Touches.f k bt149.1 bt149.2.1 bt149.2.2.1 bt149.2.2.2.1 bt149.2.2.2.2.1 false 256 256 9).bind fun t156 => (if t113 = true then (some false) else (if t120 = true then (if t127 = true then (if t134 = true then (some false) else (if t141 = true then (if t148 = true then (some (!t156)) else (some false)) else (some false))) else (some false)) else (some false)))))))) = some r := H
  have A9 := Aside0.mk A90
  clear A90
  replace H := Option.bind_eq_some_iff.mp H
  obtain ⟨t141, A100, H⟩ := H
  replace H : ((curtilagelaw22_of.f 0 9 9).bind fun bt142 => ((sweep_Touches.f k bt142.1 bt142.2.1 bt142.2.2.1 bt142.2.2.2.1 bt142.2.2.2.2.1 bt142.2.2.2.2.2 256 256 9).bind fun t148 => ((curtilagelaw22_of.f 300 400 9).bind fun bt149 => ((sweep_Touches.f k bt149.1 bt149.2.1 bt149.2.2.1 bt149.2.2.2.1 bt149.2.2.2.2.1 false 256 256 9).bind fun t156 => (if t113 = true then (some false) else (if t120 = true then (if t127 = true then (if t134 = true then (some false) else (if t141 = true then (if t148 = true then (some (!t156)) else (some false)) else (some false))) else (some false)) else (some false))))))) = some r := H
  have A10 := Aside0.mk A100
  clear A100
  replace H := Option.bind_eq_some_iff.mp H
  obtain ⟨⟨t142, t143, t144, t145, t146, t147⟩, A110, H⟩ := H
  replace H : ((sweep_Touches.f k t142 t143 t144 t145 t146 t147 256 256 9).bind fun t148 => ((curtilagelaw22_of.f 300 400 9).bind fun bt149 => ((sweep_Touches.f k bt149.1 bt149.2.1 bt149.2.2.1 bt149.2.2.2.1 bt149.2.2.2.2.1 false 256 256 9).bind fun t156 => (if t113 = true then (some false) else (if t120 = true then (if t127 = true then (if t134 = true then (some false) else (if t141 = true then (if t148 = true then (some (!t156)) else (some false)) else (some false))) else (some false)) else (some false)))))) = some r := H
  have A11 := Aside0.mk A110
  clear A110
  replace H := Option.bind_eq_some_iff.mp H
  obtain ⟨t148, A120, H⟩ := H
  replace H : ((curtilagelaw22_of.f 300 400 9).bind fun bt149 => ((sweep_Touches.f k bt149.1 bt149.2.1 bt149.2.2.1 bt149.2.2.2.1 bt149.2.2.2.2.1 false 256 256 9).bind fun t156 => (if t113 = true then (some false) else (if t120 = true then (if t127 = true then (if t134 = true then (some false) else (if t141 = true then (if t148 = true then (some (!t156)) else (some false)) else (some false))) else (some false)) else (some false))))) = some r := H
  have A12 := Aside0.mk A120
  clear A120
  replace H := Option.bind_eq_some_iff.mp H
  obtain ⟨⟨t149, t150, t151, t152, t153, t154⟩, A130, H⟩ := H
  replace H : ((sweep_Touches.f k t149 t150 t151 t152 t153 false 256 256 9).bind fun t156 => (if t113 = true then (some false) else (if t120 = true then (if t127 = true then (if t134 = true then (some false) else (if t141 = true then (if t148 = true then (some (!t156)) else (some false)) else (some false))) else (some false)) else (some false)))) = some r := H
  have A13 := Aside0.mk A130
  clear A130
  replace H := Option.bind_eq_some_iff.mp H
  obtain ⟨t156, A140, H⟩ := H
  replace H : (if t113 = true then (some false) else (if t120 = true then (if t127 = true then (if t134 = true then (some false) else (if t141 = true then (if t148 = true then (some (!t156)) else (some false)) else (some false))) else (some false)) else (some false))) = some r := H
  have A14 := Aside0.mk A140
  clear A140
  by_cases c15 : t113 = true
  · subst c15
    have H1 : (some false) = some r := by rw [if_pos rfl] at H; exact H
    clear H
    have H := H1
    clear H1
    exact absurd ((Option.some.inj H).trans HT.out) (by decide)
  · replace c15 := Bool.eq_false_iff.mpr c15
    subst c15
    have H1 : (if t120 = true then (if t127 = true then (if t134 = true then (some false) else (if t141 = true then (if t148 = true then (some (!t156)) else (some false)) else (some false))) else (some false)) else (some false)) = some r := by rw [if_neg (show ¬ (false = true) by decide)] at H; exact H
    clear H
    have H := H1
    clear H1
    by_cases c32 : t120 = true
    · subst c32
      have H1 : (if t127 = true then (if t134 = true then (some false) else (if t141 = true then (if t148 = true then (some (!t156)) else (some false)) else (some false))) else (some false)) = some r := by rw [if_pos rfl] at H; exact H
      clear H
      have H := H1
      clear H1
      by_cases c33 : t127 = true
      · subst c33
        have H1 : (if t134 = true then (some false) else (if t141 = true then (if t148 = true then (some (!t156)) else (some false)) else (some false))) = some r := by rw [if_pos rfl] at H; exact H
        clear H
        have H := H1
        clear H1
        by_cases c34 : t134 = true
        · subst c34
          have H1 : (some false) = some r := by rw [if_pos rfl] at H; exact H
          clear H
          have H := H1
          clear H1
          exact absurd ((Option.some.inj H).trans HT.out) (by decide)
        · replace c34 := Bool.eq_false_iff.mpr c34
          subst c34
          have H1 : (if t141 = true then (if t148 = true then (some (!t156)) else (some false)) else (some false)) = some r := by rw [if_neg (show ¬ (false = true) by decide)] at H; exact H
          clear H
          have H := H1
          clear H1
          by_cases c51 : t141 = true
          · subst c51
            have H1 : (if t148 = true then (some (!t156)) else (some false)) = some r := by rw [if_pos rfl] at H; exact H
            clear H
            have H := H1
            clear H1
            by_cases c52 : t148 = true
            · subst c52
              have H1 : (some (!t156)) = some r := by rw [if_pos rfl] at H; exact H
              clear H
              have H := H1
              clear H1
              obtain rfl := Option.some.inj H
              go_enter Try.func7, Try.ntmps7
              go_upto_region 9 with (first | ((with_reducible refine gate_dst (N := 9) rfl ?_); (with_reducible refine gate_callee (f := 24) rfl ?_); refine goesL_ (some 9) rfl rfl Try.func24 (by kernel_rfl) rfl #[.int .u64 0, .int .u64 256, .int .i64 (-1)] rfl (by (try simp only [List.map_toArray, List.map_cons, List.map_nil]); first | done | rfl | (simp only [List.length_drop, List.length_take]; rfl)) ?_; (with_reducible refine (curtilagelaw22_of.calls 0 256 (-1) t107 t108 t109 t110 t111 t112 _ A1.out).mono ?_); rintro e w53 ⟨rfl, hb⟩; refine ⟨_, rfl, ?_⟩; have n0_ := Aside0.mk (below_step (by repeat (first | (with_reducible first | exact HB.out | apply below_alloc | apply pw_below_drewN | apply below_drew1) | exact HB.out)) hb); clear HB; have HB := n0_; clear n0_; (try clear hb); (try clear hb2); (try clear hk); (try clear hi)) | ((with_reducible refine gate_dst (N := 10) rfl ?_); (with_reducible refine gate_callee (f := 9) rfl ?_); refine goesL_ (some 10) rfl rfl Try.func9 (by kernel_rfl) rfl #[.agg #[.int .u64 t107, .int .u64 t108, .int .u64 t109, .int .i64 t110, .int .i64 t111, .bool t112], .int .u64 256, .int .u64 256, .int .i64 9] rfl (by (try simp only [List.map_toArray, List.map_cons, List.map_nil]); first | done | rfl | (simp only [List.length_drop, List.length_take]; rfl)) ?_; (with_reducible refine (sweep_Touches.calls k t107 t108 t109 t110 t111 t112 256 256 9 false _ A2.out).mono ?_); rintro e w54 ⟨rfl, hb⟩; refine ⟨_, rfl, ?_⟩; have n0_ := Aside0.mk (below_step (by repeat (first | (with_reducible first | exact HB.out | apply below_alloc | apply pw_below_drewN | apply below_drew1) | exact HB.out)) hb); clear HB; have HB := n0_; clear n0_; (try clear hb); (try clear hb2); (try clear hk); (try clear hi)) | ((with_reducible refine gate_dst (N := 11) rfl ?_); (with_reducible refine gate_callee (f := 24) rfl ?_); refine goesL_ (some 11) rfl rfl Try.func24 (by kernel_rfl) rfl #[.int .u64 0, .int .u64 257, .int .i64 (-1)] rfl (by (try simp only [List.map_toArray, List.map_cons, List.map_nil]); first | done | rfl | (simp only [List.length_drop, List.length_take]; rfl)) ?_; (with_reducible refine (curtilagelaw22_of.calls 0 257 (-1) t114 t115 t116 t117 t118 t119 _ A3.out).mono ?_); rintro e w55 ⟨rfl, hb⟩; refine ⟨_, rfl, ?_⟩; have n0_ := Aside0.mk (below_step (by repeat (first | (with_reducible first | exact HB.out | apply below_alloc | apply pw_below_drewN | apply below_drew1) | exact HB.out)) hb); clear HB; have HB := n0_; clear n0_; (try clear hb); (try clear hb2); (try clear hk); (try clear hi)) | ((with_reducible refine gate_dst (N := 12) rfl ?_); (with_reducible refine gate_callee (f := 9) rfl ?_); refine goesL_ (some 12) rfl rfl Try.func9 (by kernel_rfl) rfl #[.agg #[.int .u64 t114, .int .u64 t115, .int .u64 t116, .int .i64 t117, .int .i64 t118, .bool t119], .int .u64 256, .int .u64 256, .int .i64 9] rfl (by (try simp only [List.map_toArray, List.map_cons, List.map_nil]); first | done | rfl | (simp only [List.length_drop, List.length_take]; rfl)) ?_; (with_reducible refine (sweep_Touches.calls k t114 t115 t116 t117 t118 t119 256 256 9 true _ A4.out).mono ?_); rintro e w56 ⟨rfl, hb⟩; refine ⟨_, rfl, ?_⟩; have n0_ := Aside0.mk (below_step (by repeat (first | (with_reducible first | exact HB.out | apply below_alloc | apply pw_below_drewN | apply below_drew1) | exact HB.out)) hb); clear HB; have HB := n0_; clear n0_; (try clear hb); (try clear hb2); (try clear hk); (try clear hi)) | ((with_reducible refine gate_dst (N := 13) rfl ?_); (with_reducible refine gate_callee (f := 24) rfl ?_); refine goesL_ (some 13) rfl rfl Try.func24 (by kernel_rfl) rfl #[.int .u64 511, .int .u64 600, .int .i64 (-1)] rfl (by (try simp only [List.map_toArray, List.map_cons, List.map_nil]); first | done | rfl | (simp only [List.length_drop, List.length_take]; rfl)) ?_; (with_reducible refine (curtilagelaw22_of.calls 511 600 (-1) t121 t122 t123 t124 t125 t126 _ A5.out).mono ?_); rintro e w57 ⟨rfl, hb⟩; refine ⟨_, rfl, ?_⟩; have n0_ := Aside0.mk (below_step (by repeat (first | (with_reducible first | exact HB.out | apply below_alloc | apply pw_below_drewN | apply below_drew1) | exact HB.out)) hb); clear HB; have HB := n0_; clear n0_; (try clear hb); (try clear hb2); (try clear hk); (try clear hi)) | ((with_reducible refine gate_dst (N := 14) rfl ?_); (with_reducible refine gate_callee (f := 9) rfl ?_); refine goesL_ (some 14) rfl rfl Try.func9 (by kernel_rfl) rfl #[.agg #[.int .u64 t121, .int .u64 t122, .int .u64 t123, .int .i64 t124, .int .i64 t125, .bool t126], .int .u64 256, .int .u64 256, .int .i64 9] rfl (by (try simp only [List.map_toArray, List.map_cons, List.map_nil]); first | done | rfl | (simp only [List.length_drop, List.length_take]; rfl)) ?_; (with_reducible refine (sweep_Touches.calls k t121 t122 t123 t124 t125 t126 256 256 9 true _ A6.out).mono ?_); rintro e w58 ⟨rfl, hb⟩; refine ⟨_, rfl, ?_⟩; have n0_ := Aside0.mk (below_step (by repeat (first | (with_reducible first | exact HB.out | apply below_alloc | apply pw_below_drewN | apply below_drew1) | exact HB.out)) hb); clear HB; have HB := n0_; clear n0_; (try clear hb); (try clear hb2); (try clear hk); (try clear hi)) | ((with_reducible refine gate_dst (N := 15) rfl ?_); (with_reducible refine gate_callee (f := 24) rfl ?_); refine goesL_ (some 15) rfl rfl Try.func24 (by kernel_rfl) rfl #[.int .u64 512, .int .u64 600, .int .i64 (-1)] rfl (by (try simp only [List.map_toArray, List.map_cons, List.map_nil]); first | done | rfl | (simp only [List.length_drop, List.length_take]; rfl)) ?_; (with_reducible refine (curtilagelaw22_of.calls 512 600 (-1) t128 t129 t130 t131 t132 t133 _ A7.out).mono ?_); rintro e w59 ⟨rfl, hb⟩; refine ⟨_, rfl, ?_⟩; have n0_ := Aside0.mk (below_step (by repeat (first | (with_reducible first | exact HB.out | apply below_alloc | apply pw_below_drewN | apply below_drew1) | exact HB.out)) hb); clear HB; have HB := n0_; clear n0_; (try clear hb); (try clear hb2); (try clear hk); (try clear hi)) | ((with_reducible refine gate_dst (N := 16) rfl ?_); (with_reducible refine gate_callee (f := 9) rfl ?_); refine goesL_ (some 16) rfl rfl Try.func9 (by kernel_rfl) rfl #[.agg #[.int .u64 t128, .int .u64 t129, .int .u64 t130, .int .i64 t131, .int .i64 t132, .bool t133], .int .u64 256, .int .u64 256, .int .i64 9] rfl (by (try simp only [List.map_toArray, List.map_cons, List.map_nil]); first | done | rfl | (simp only [List.length_drop, List.length_take]; rfl)) ?_; (with_reducible refine (sweep_Touches.calls k t128 t129 t130 t131 t132 t133 256 256 9 false _ A8.out).mono ?_); rintro e w60 ⟨rfl, hb⟩; refine ⟨_, rfl, ?_⟩; have n0_ := Aside0.mk (below_step (by repeat (first | (with_reducible first | exact HB.out | apply below_alloc | apply pw_below_drewN | apply below_drew1) | exact HB.out)) hb); clear HB; have HB := n0_; clear n0_; (try clear hb); (try clear hb2); (try clear hk); (try clear hi)) | ((with_reducible refine gate_dst (N := 17) rfl ?_); (with_reducible refine gate_callee (f := 24) rfl ?_); refine goesL_ (some 17) rfl rfl Try.func24 (by kernel_rfl) rfl #[.int .u64 300, .int .u64 300, .int .i64 (-1)] rfl (by (try simp only [List.map_toArray, List.map_cons, List.map_nil]); first | done | rfl | (simp only [List.length_drop, List.length_take]; rfl)) ?_; (with_reducible refine (curtilagelaw22_of.calls 300 300 (-1) t135 t136 t137 t138 t139 t140 _ A9.out).mono ?_); rintro e w61 ⟨rfl, hb⟩; refine ⟨_, rfl, ?_⟩; have n0_ := Aside0.mk (below_step (by repeat (first | (with_reducible first | exact HB.out | apply below_alloc | apply pw_below_drewN | apply below_drew1) | exact HB.out)) hb); clear HB; have HB := n0_; clear n0_; (try clear hb); (try clear hb2); (try clear hk); (try clear hi)) | ((with_reducible refine gate_dst (N := 18) rfl ?_); (with_reducible refine gate_callee (f := 9) rfl ?_); refine goesL_ (some 18) rfl rfl Try.func9 (by kernel_rfl) rfl #[.agg #[.int .u64 t135, .int .u64 t136, .int .u64 t137, .int .i64 t138, .int .i64 t139, .bool t140], .int .u64 256, .int .u64 256, .int .i64 9] rfl (by (try simp only [List.map_toArray, List.map_cons, List.map_nil]); first | done | rfl | (simp only [List.length_drop, List.length_take]; rfl)) ?_; (with_reducible refine (sweep_Touches.calls k t135 t136 t137 t138 t139 t140 256 256 9 true _ A10.out).mono ?_); rintro e w62 ⟨rfl, hb⟩; refine ⟨_, rfl, ?_⟩; have n0_ := Aside0.mk (below_step (by repeat (first | (with_reducible first | exact HB.out | apply below_alloc | apply pw_below_drewN | apply below_drew1) | exact HB.out)) hb); clear HB; have HB := n0_; clear n0_; (try clear hb); (try clear hb2); (try clear hk); (try clear hi)) | ((with_reducible refine gate_dst (N := 19) rfl ?_); (with_reducible refine gate_callee (f := 24) rfl ?_); refine goesL_ (some 19) rfl rfl Try.func24 (by kernel_rfl) rfl #[.int .u64 0, .int .u64 9, .int .i64 9] rfl (by (try simp only [List.map_toArray, List.map_cons, List.map_nil]); first | done | rfl | (simp only [List.length_drop, List.length_take]; rfl)) ?_; (with_reducible refine (curtilagelaw22_of.calls 0 9 9 t142 t143 t144 t145 t146 t147 _ A11.out).mono ?_); rintro e w63 ⟨rfl, hb⟩; refine ⟨_, rfl, ?_⟩; have n0_ := Aside0.mk (below_step (by repeat (first | (with_reducible first | exact HB.out | apply below_alloc | apply pw_below_drewN | apply below_drew1) | exact HB.out)) hb); clear HB; have HB := n0_; clear n0_; (try clear hb); (try clear hb2); (try clear hk); (try clear hi)) | ((with_reducible refine gate_dst (N := 20) rfl ?_); (with_reducible refine gate_callee (f := 9) rfl ?_); refine goesL_ (some 20) rfl rfl Try.func9 (by kernel_rfl) rfl #[.agg #[.int .u64 t142, .int .u64 t143, .int .u64 t144, .int .i64 t145, .int .i64 t146, .bool t147], .int .u64 256, .int .u64 256, .int .i64 9] rfl (by (try simp only [List.map_toArray, List.map_cons, List.map_nil]); first | done | rfl | (simp only [List.length_drop, List.length_take]; rfl)) ?_; (with_reducible refine (sweep_Touches.calls k t142 t143 t144 t145 t146 t147 256 256 9 true _ A12.out).mono ?_); rintro e w64 ⟨rfl, hb⟩; refine ⟨_, rfl, ?_⟩; have n0_ := Aside0.mk (below_step (by repeat (first | (with_reducible first | exact HB.out | apply below_alloc | apply pw_below_drewN | apply below_drew1) | exact HB.out)) hb); clear HB; have HB := n0_; clear n0_; (try clear hb); (try clear hb2); (try clear hk); (try clear hi)) | ((with_reducible refine gate_dst (N := 21) rfl ?_); (with_reducible refine gate_callee (f := 24) rfl ?_); refine goesL_ (some 21) rfl rfl Try.func24 (by kernel_rfl) rfl #[.int .u64 300, .int .u64 400, .int .i64 9] rfl (by (try simp only [List.map_toArray, List.map_cons, List.map_nil]); first | done | rfl | (simp only [List.length_drop, List.length_take]; rfl)) ?_; (with_reducible refine (curtilagelaw22_of.calls 300 400 9 t149 t150 t151 t152 t153 t154 _ A13.out).mono ?_); rintro e w65 ⟨rfl, hb⟩; refine ⟨_, rfl, ?_⟩; have n0_ := Aside0.mk (below_step (by repeat (first | (with_reducible first | exact HB.out | apply below_alloc | apply pw_below_drewN | apply below_drew1) | exact HB.out)) hb); clear HB; have HB := n0_; clear n0_; (try clear hb); (try clear hb2); (try clear hk); (try clear hi)) | ((with_reducible refine gate_dst (N := 7) rfl ?_); refine box_event ?hg (N := 7) ?hd (cs := #[.int .u64 0, .int .u64 0, .int .u64 0, .int .i64 0, .int .i64 0, .bool false]) (t := 24) ?hr ?_; (case hd => rfl); (case hg => rfl); (case hr => first | (go_simp; done) | (go_simp; rfl)); intro gb155 hg w66 hbox hb; have n0_ := Aside0.mk (below_step (by repeat (first | (with_reducible first | exact HB.out | apply below_alloc | apply pw_below_drewN | apply below_drew1) | exact HB.out)) hb); have n1_ := Aside0.mk (hbox); have n2_ := Aside0.mk ((by rw [hg]; exact (below_size (by repeat (first | (with_reducible first | exact HB.out | apply below_alloc | apply pw_below_drewN | apply below_drew1) | exact HB.out))) : w.heap.size ≤ gb155)); have n3_ := Aside0.mk ((by rw [hg]; exact (below_size (by repeat (first | (with_reducible first | exact HB.out | apply below_alloc | apply pw_below_drewN | apply below_drew1) | exact HB.out))) : w.heap.size ≤ gb155)); clear HB; have HB := n0_; have BK155 := n1_; have GW155 := n2_; have GE155 := n3_; clear n0_ n1_ n2_ n3_; clear hb hbox hg; have hcz67_0 : w66.cell? ⟨gb155, 0, none⟩ = some (.int .u64 0) := (blk_cell BK155.out 0).trans rfl; have hcz67_1 : w66.cell? ⟨gb155, 1, none⟩ = some (.int .u64 0) := (blk_cell BK155.out 1).trans rfl; have hcz67_2 : w66.cell? ⟨gb155, 2, none⟩ = some (.int .u64 0) := (blk_cell BK155.out 2).trans rfl; have hcz67_3 : w66.cell? ⟨gb155, 3, none⟩ = some (.int .i64 0) := (blk_cell BK155.out 3).trans rfl; have hcz67_4 : w66.cell? ⟨gb155, 4, none⟩ = some (.int .i64 0) := (blk_cell BK155.out 4).trans rfl; have hcz67_5 : w66.cell? ⟨gb155, 5, none⟩ = some (.bool false) := (blk_cell BK155.out 5).trans rfl; have hfz67_0 := blk_frozen BK155.out 0; have hfz67_1 := blk_frozen BK155.out 1; have hfz67_2 := blk_frozen BK155.out 2; have hfz67_3 := blk_frozen BK155.out 3; have hfz67_4 := blk_frozen BK155.out 4; have hfz67_5 := blk_frozen BK155.out 5))
              refine gen_wp (Q := fun W => W.heap[gb155]? = some (.cells #[.int .u64 t149, .int .u64 t150, .int .u64 t151, .int .i64 t152, .int .i64 t153, .bool false] 24 (0, 0)) ∧ Below w.heap.size w W) ⟨(by (with_reducible repeat (first | refine blk_drewN ?_ _ | refine blk_drew ?_ | refine blk_alloc ?_ _)); refine blk_put (cs := #[.int .u64 t149, .int .u64 t150, .int .u64 t151, .int .i64 t152, .int .i64 t153, .bool t154]) ?_ 5 _ rfl; (with_reducible repeat (first | refine blk_drewN ?_ _ | refine blk_drew ?_ | refine blk_alloc ?_ _)); refine blk_put (cs := #[.int .u64 t149, .int .u64 t150, .int .u64 t151, .int .i64 t152, .int .i64 t153, .bool false]) ?_ 5 _ rfl; (with_reducible repeat (first | refine blk_drewN ?_ _ | refine blk_drew ?_ | refine blk_alloc ?_ _)); refine blk_put (cs := #[.int .u64 t149, .int .u64 t150, .int .u64 t151, .int .i64 t152, .int .i64 0, .bool false]) ?_ 4 _ rfl; (with_reducible repeat (first | refine blk_drewN ?_ _ | refine blk_drew ?_ | refine blk_alloc ?_ _)); refine blk_put (cs := #[.int .u64 t149, .int .u64 t150, .int .u64 t151, .int .i64 0, .int .i64 0, .bool false]) ?_ 3 _ rfl; (with_reducible repeat (first | refine blk_drewN ?_ _ | refine blk_drew ?_ | refine blk_alloc ?_ _)); refine blk_put (cs := #[.int .u64 t149, .int .u64 t150, .int .u64 0, .int .i64 0, .int .i64 0, .bool false]) ?_ 2 _ rfl; (with_reducible repeat (first | refine blk_drewN ?_ _ | refine blk_drew ?_ | refine blk_alloc ?_ _)); refine blk_put (cs := #[.int .u64 t149, .int .u64 0, .int .u64 0, .int .i64 0, .int .i64 0, .bool false]) ?_ 1 _ rfl; (with_reducible repeat (first | refine blk_drewN ?_ _ | refine blk_drew ?_ | refine blk_alloc ?_ _)); refine blk_put (cs := #[.int .u64 0, .int .u64 0, .int .u64 0, .int .i64 0, .int .i64 0, .bool false]) ?_ 0 _ rfl; (with_reducible repeat (first | refine blk_drewN ?_ _ | refine blk_drew ?_ | refine blk_alloc ?_ _)); exact BK155.out), (by repeat (first | (with_reducible first | exact HB.out | apply below_alloc | apply pw_below_drewN | apply below_drew1 | refine below_set ?_ GE155.out) | exact HB.out))⟩ ?_
              rintro wq ⟨BKq, HBq⟩
              clear BK155 HB
              have BK155 := Aside0.mk BKq
              have HB := Aside0.mk HBq
              clear BKq HBq
              have hczq_0 : wq.cell? ⟨gb155, 0, none⟩ = some (.int .u64 t149) := (blk_cell BK155.out 0).trans rfl
              have hfzq_0 := blk_frozen BK155.out 0
              have hczq_1 : wq.cell? ⟨gb155, 1, none⟩ = some (.int .u64 t150) := (blk_cell BK155.out 1).trans rfl
              have hfzq_1 := blk_frozen BK155.out 1
              have hczq_2 : wq.cell? ⟨gb155, 2, none⟩ = some (.int .u64 t151) := (blk_cell BK155.out 2).trans rfl
              have hfzq_2 := blk_frozen BK155.out 2
              have hczq_3 : wq.cell? ⟨gb155, 3, none⟩ = some (.int .i64 t152) := (blk_cell BK155.out 3).trans rfl
              have hfzq_3 := blk_frozen BK155.out 3
              have hczq_4 : wq.cell? ⟨gb155, 4, none⟩ = some (.int .i64 t153) := (blk_cell BK155.out 4).trans rfl
              have hfzq_4 := blk_frozen BK155.out 4
              have hczq_5 : wq.cell? ⟨gb155, 5, none⟩ = some (.bool false) := (blk_cell BK155.out 5).trans rfl
              have hfzq_5 := blk_frozen BK155.out 5
              go_wp2_with ((with_reducible refine gate_dst (N := 24) rfl ?_); (with_reducible refine gate_callee (f := 9) rfl ?_); refine goesL_ (some 24) rfl rfl Try.func9 (by kernel_rfl) rfl #[.agg #[.int .u64 t149, .int .u64 t150, .int .u64 t151, .int .i64 t152, .int .i64 t153, .bool false], .int .u64 256, .int .u64 256, .int .i64 9] rfl (by (try simp only [List.map_toArray, List.map_cons, List.map_nil]); first | done | rfl | (simp only [List.length_drop, List.length_take]; rfl)) ?_; (with_reducible refine (sweep_Touches.calls k t149 t150 t151 t152 t153 false 256 256 9 t156 _ A14.out).mono ?_); rintro e w68 ⟨rfl, hb⟩; refine ⟨_, rfl, ?_⟩; have n0_ := Aside0.mk (blk_below (g := gb155) (o := .cells #[.int .u64 t149, .int .u64 t150, .int .u64 t151, .int .i64 t152, .int .i64 t153, .bool false] 24 (0, 0)) BK155.out hb); have n1_ := Aside0.mk (below_step (by repeat (first | (with_reducible first | exact HB.out | apply below_alloc | apply pw_below_drewN | apply below_drew1 | refine below_set ?_ GE155.out) | exact HB.out)) hb); clear BK155; clear HB; have BK155 := n0_; have HB := n1_; clear n0_ n1_; (try clear hb); (try clear hb2); (try clear hk); (try clear hi))
              go_ret
              exact ⟨by first | rfl | (simp [errW_none, errW_some] <;> rfl) | (simp [*, errW_none, errW_some] <;> rfl), by repeat (first | (with_reducible first | exact HB.out | apply below_alloc | apply pw_below_drewN | apply below_drew1 | refine below_set ?_ GE155.out) | exact HB.out)⟩
            · replace c52 := Bool.eq_false_iff.mpr c52
              subst c52
              have H1 : (some false) = some r := by rw [if_neg (show ¬ (false = true) by decide)] at H; exact H
              clear H
              have H := H1
              clear H1
              exact absurd ((Option.some.inj H).trans HT.out) (by decide)
          · replace c51 := Bool.eq_false_iff.mpr c51
            subst c51
            have H1 : (some false) = some r := by rw [if_neg (show ¬ (false = true) by decide)] at H; exact H
            clear H
            have H := H1
            clear H1
            exact absurd ((Option.some.inj H).trans HT.out) (by decide)
      · replace c33 := Bool.eq_false_iff.mpr c33
        subst c33
        have H1 : (some false) = some r := by rw [if_neg (show ¬ (false = true) by decide)] at H; exact H
        clear H
        have H := H1
        clear H1
        exact absurd ((Option.some.inj H).trans HT.out) (by decide)
    · replace c32 := Bool.eq_false_iff.mpr c32
      subst c32
      have H1 : (some false) = some r := by rw [if_neg (show ¬ (false = true) by decide)] at H; exact H
      clear H
      have H := H1
      clear H1
      exact absurd ((Option.some.inj H).trans HT.out) (by decide)

/-! ### curtilageref02_Right: function 8 -/
def curtilageref02_Right.f (a0_0 : Int) (a0_1 : Int) (a0_2 : Int) (a0_3 : Int) (a0_4 : Int) (a0_5 : Bool) : Option (Bool) := if a0_3 ≥ 0 then (if a0_3 ≤ 255 then (if a0_4 ≥ (-1) then (some (decide (a0_4 ≤ 63))) else (some false)) else (some false)) else (some false)
set_option maxHeartbeats 8000000 in
set_option maxRecDepth 100000 in
theorem curtilageref02_Right.calls (a0_0 : Int) (a0_1 : Int) (a0_2 : Int) (a0_3 : Int) (a0_4 : Int) (a0_5 : Bool) (r : Bool) (w : World) (h : curtilageref02_Right.f a0_0 a0_1 a0_2 a0_3 a0_4 a0_5 = some r) :
    Calls Try.prog 8 #[.agg #[.int .u64 a0_0, .int .u64 a0_1, .int .u64 a0_2, .int .i64 a0_3, .int .i64 a0_4, .bool a0_5]] w fun e w' => e = .returned (.bool r) ∧ Below w.heap.size w w' := by
  have hu24 := Try.underlying24
  have HB := Aside0.mk (Below.refl w.heap.size w)
  have H : (if a0_3 ≥ 0 then (if a0_3 ≤ 255 then (if a0_4 ≥ (-1) then (some (decide (a0_4 ≤ 63))) else (some false)) else (some false)) else (some false)) = some r := h
  clear h
  by_cases c2 : a0_3 ≥ 0
  · rw [if_pos c2] at H
    have c2b0 : decide (0 ≤ a0_3) = true := decide_eq_true c2
    clear c2
    by_cases c3 : a0_3 ≤ 255
    · rw [if_pos c3] at H
      have c3b0 : decide (a0_3 ≤ 255) = true := decide_eq_true c3
      clear c3
      by_cases c4 : a0_4 ≥ (-1)
      · rw [if_pos c4] at H
        have c4b0 : decide ((-1) ≤ a0_4) = true := decide_eq_true c4
        clear c4
        obtain rfl := Option.some.inj H
        go_enter Try.func8, Try.ntmps8
        go_wp2_with (first | ((with_reducible refine gate_dst (N := 1) rfl ?_); refine box_event ?hg (N := 1) ?hd (cs := #[.int .u64 a0_0, .int .u64 a0_1, .int .u64 a0_2, .int .i64 a0_3, .int .i64 a0_4, .bool a0_5]) (t := 24) ?hr ?_; (case hd => rfl); (case hg => rfl); (case hr => first | (go_simp; done) | (go_simp; rfl)); intro gb157 hg w5 hbox hb; have n0_ := Aside0.mk (below_step (by repeat (first | (with_reducible first | exact HB.out | apply below_alloc | apply pw_below_drewN | apply below_drew1) | exact HB.out)) hb); have n1_ := Aside0.mk (hbox); have n2_ := Aside0.mk ((by rw [hg]; exact (below_size (by repeat (first | (with_reducible first | exact HB.out | apply below_alloc | apply pw_below_drewN | apply below_drew1) | exact HB.out))) : w.heap.size ≤ gb157)); have n3_ := Aside0.mk ((by rw [hg]; exact (below_size (by repeat (first | (with_reducible first | exact HB.out | apply below_alloc | apply pw_below_drewN | apply below_drew1) | exact HB.out))) : w.heap.size ≤ gb157)); clear HB; have HB := n0_; have BK157 := n1_; have GW157 := n2_; have GE157 := n3_; clear n0_ n1_ n2_ n3_; clear hb hbox hg; have hcz6_0 : w5.cell? ⟨gb157, 0, none⟩ = some (.int .u64 a0_0) := (blk_cell BK157.out 0).trans rfl; have hcz6_1 : w5.cell? ⟨gb157, 1, none⟩ = some (.int .u64 a0_1) := (blk_cell BK157.out 1).trans rfl; have hcz6_2 : w5.cell? ⟨gb157, 2, none⟩ = some (.int .u64 a0_2) := (blk_cell BK157.out 2).trans rfl; have hcz6_3 : w5.cell? ⟨gb157, 3, none⟩ = some (.int .i64 a0_3) := (blk_cell BK157.out 3).trans rfl; have hcz6_4 : w5.cell? ⟨gb157, 4, none⟩ = some (.int .i64 a0_4) := (blk_cell BK157.out 4).trans rfl; have hcz6_5 : w5.cell? ⟨gb157, 5, none⟩ = some (.bool a0_5) := (blk_cell BK157.out 5).trans rfl; have hfz6_0 := blk_frozen BK157.out 0; have hfz6_1 := blk_frozen BK157.out 1; have hfz6_2 := blk_frozen BK157.out 2; have hfz6_3 := blk_frozen BK157.out 3; have hfz6_4 := blk_frozen BK157.out 4; have hfz6_5 := blk_frozen BK157.out 5))
        go_ret
        exact ⟨by first | rfl | (simp [errW_none, errW_some] <;> rfl) | (simp [*, errW_none, errW_some] <;> rfl), by repeat (first | (with_reducible first | exact HB.out | apply below_alloc | apply pw_below_drewN | apply below_drew1 | refine below_set ?_ GE157.out) | exact HB.out)⟩
      · rw [if_neg c4] at H
        have c4b0 : decide ((-1) ≤ a0_4) = false := decide_eq_false c4
        clear c4
        obtain rfl := Option.some.inj H
        go_enter Try.func8, Try.ntmps8
        go_wp2_with (first | ((with_reducible refine gate_dst (N := 1) rfl ?_); refine box_event ?hg (N := 1) ?hd (cs := #[.int .u64 a0_0, .int .u64 a0_1, .int .u64 a0_2, .int .i64 a0_3, .int .i64 a0_4, .bool a0_5]) (t := 24) ?hr ?_; (case hd => rfl); (case hg => rfl); (case hr => first | (go_simp; done) | (go_simp; rfl)); intro gb157 hg w7 hbox hb; have n0_ := Aside0.mk (below_step (by repeat (first | (with_reducible first | exact HB.out | apply below_alloc | apply pw_below_drewN | apply below_drew1) | exact HB.out)) hb); have n1_ := Aside0.mk (hbox); have n2_ := Aside0.mk ((by rw [hg]; exact (below_size (by repeat (first | (with_reducible first | exact HB.out | apply below_alloc | apply pw_below_drewN | apply below_drew1) | exact HB.out))) : w.heap.size ≤ gb157)); have n3_ := Aside0.mk ((by rw [hg]; exact (below_size (by repeat (first | (with_reducible first | exact HB.out | apply below_alloc | apply pw_below_drewN | apply below_drew1) | exact HB.out))) : w.heap.size ≤ gb157)); clear HB; have HB := n0_; have BK157 := n1_; have GW157 := n2_; have GE157 := n3_; clear n0_ n1_ n2_ n3_; clear hb hbox hg; have hcz8_0 : w7.cell? ⟨gb157, 0, none⟩ = some (.int .u64 a0_0) := (blk_cell BK157.out 0).trans rfl; have hcz8_1 : w7.cell? ⟨gb157, 1, none⟩ = some (.int .u64 a0_1) := (blk_cell BK157.out 1).trans rfl; have hcz8_2 : w7.cell? ⟨gb157, 2, none⟩ = some (.int .u64 a0_2) := (blk_cell BK157.out 2).trans rfl; have hcz8_3 : w7.cell? ⟨gb157, 3, none⟩ = some (.int .i64 a0_3) := (blk_cell BK157.out 3).trans rfl; have hcz8_4 : w7.cell? ⟨gb157, 4, none⟩ = some (.int .i64 a0_4) := (blk_cell BK157.out 4).trans rfl; have hcz8_5 : w7.cell? ⟨gb157, 5, none⟩ = some (.bool a0_5) := (blk_cell BK157.out 5).trans rfl; have hfz8_0 := blk_frozen BK157.out 0; have hfz8_1 := blk_frozen BK157.out 1; have hfz8_2 := blk_frozen BK157.out 2; have hfz8_3 := blk_frozen BK157.out 3; have hfz8_4 := blk_frozen BK157.out 4; have hfz8_5 := blk_frozen BK157.out 5))
        go_ret
        exact ⟨by first | rfl | (simp [errW_none, errW_some] <;> rfl) | (simp [*, errW_none, errW_some] <;> rfl), by repeat (first | (with_reducible first | exact HB.out | apply below_alloc | apply pw_below_drewN | apply below_drew1 | refine below_set ?_ GE157.out) | exact HB.out)⟩
    · rw [if_neg c3] at H
      have c3b0 : decide (a0_3 ≤ 255) = false := decide_eq_false c3
      clear c3
      obtain rfl := Option.some.inj H
      go_enter Try.func8, Try.ntmps8
      go_wp2_with (first | ((with_reducible refine gate_dst (N := 1) rfl ?_); refine box_event ?hg (N := 1) ?hd (cs := #[.int .u64 a0_0, .int .u64 a0_1, .int .u64 a0_2, .int .i64 a0_3, .int .i64 a0_4, .bool a0_5]) (t := 24) ?hr ?_; (case hd => rfl); (case hg => rfl); (case hr => first | (go_simp; done) | (go_simp; rfl)); intro gb157 hg w9 hbox hb; have n0_ := Aside0.mk (below_step (by repeat (first | (with_reducible first | exact HB.out | apply below_alloc | apply pw_below_drewN | apply below_drew1) | exact HB.out)) hb); have n1_ := Aside0.mk (hbox); have n2_ := Aside0.mk ((by rw [hg]; exact (below_size (by repeat (first | (with_reducible first | exact HB.out | apply below_alloc | apply pw_below_drewN | apply below_drew1) | exact HB.out))) : w.heap.size ≤ gb157)); have n3_ := Aside0.mk ((by rw [hg]; exact (below_size (by repeat (first | (with_reducible first | exact HB.out | apply below_alloc | apply pw_below_drewN | apply below_drew1) | exact HB.out))) : w.heap.size ≤ gb157)); clear HB; have HB := n0_; have BK157 := n1_; have GW157 := n2_; have GE157 := n3_; clear n0_ n1_ n2_ n3_; clear hb hbox hg; have hcz10_0 : w9.cell? ⟨gb157, 0, none⟩ = some (.int .u64 a0_0) := (blk_cell BK157.out 0).trans rfl; have hcz10_1 : w9.cell? ⟨gb157, 1, none⟩ = some (.int .u64 a0_1) := (blk_cell BK157.out 1).trans rfl; have hcz10_2 : w9.cell? ⟨gb157, 2, none⟩ = some (.int .u64 a0_2) := (blk_cell BK157.out 2).trans rfl; have hcz10_3 : w9.cell? ⟨gb157, 3, none⟩ = some (.int .i64 a0_3) := (blk_cell BK157.out 3).trans rfl; have hcz10_4 : w9.cell? ⟨gb157, 4, none⟩ = some (.int .i64 a0_4) := (blk_cell BK157.out 4).trans rfl; have hcz10_5 : w9.cell? ⟨gb157, 5, none⟩ = some (.bool a0_5) := (blk_cell BK157.out 5).trans rfl; have hfz10_0 := blk_frozen BK157.out 0; have hfz10_1 := blk_frozen BK157.out 1; have hfz10_2 := blk_frozen BK157.out 2; have hfz10_3 := blk_frozen BK157.out 3; have hfz10_4 := blk_frozen BK157.out 4; have hfz10_5 := blk_frozen BK157.out 5))
      go_ret
      exact ⟨by first | rfl | (simp [errW_none, errW_some] <;> rfl) | (simp [*, errW_none, errW_some] <;> rfl), by repeat (first | (with_reducible first | exact HB.out | apply below_alloc | apply pw_below_drewN | apply below_drew1 | refine below_set ?_ GE157.out) | exact HB.out)⟩
  · rw [if_neg c2] at H
    have c2b0 : decide (0 ≤ a0_3) = false := decide_eq_false c2
    clear c2
    obtain rfl := Option.some.inj H
    go_enter Try.func8, Try.ntmps8
    go_wp2_with (first | ((with_reducible refine gate_dst (N := 1) rfl ?_); refine box_event ?hg (N := 1) ?hd (cs := #[.int .u64 a0_0, .int .u64 a0_1, .int .u64 a0_2, .int .i64 a0_3, .int .i64 a0_4, .bool a0_5]) (t := 24) ?hr ?_; (case hd => rfl); (case hg => rfl); (case hr => first | (go_simp; done) | (go_simp; rfl)); intro gb157 hg w11 hbox hb; have n0_ := Aside0.mk (below_step (by repeat (first | (with_reducible first | exact HB.out | apply below_alloc | apply pw_below_drewN | apply below_drew1) | exact HB.out)) hb); have n1_ := Aside0.mk (hbox); have n2_ := Aside0.mk ((by rw [hg]; exact (below_size (by repeat (first | (with_reducible first | exact HB.out | apply below_alloc | apply pw_below_drewN | apply below_drew1) | exact HB.out))) : w.heap.size ≤ gb157)); have n3_ := Aside0.mk ((by rw [hg]; exact (below_size (by repeat (first | (with_reducible first | exact HB.out | apply below_alloc | apply pw_below_drewN | apply below_drew1) | exact HB.out))) : w.heap.size ≤ gb157)); clear HB; have HB := n0_; have BK157 := n1_; have GW157 := n2_; have GE157 := n3_; clear n0_ n1_ n2_ n3_; clear hb hbox hg; have hcz12_0 : w11.cell? ⟨gb157, 0, none⟩ = some (.int .u64 a0_0) := (blk_cell BK157.out 0).trans rfl; have hcz12_1 : w11.cell? ⟨gb157, 1, none⟩ = some (.int .u64 a0_1) := (blk_cell BK157.out 1).trans rfl; have hcz12_2 : w11.cell? ⟨gb157, 2, none⟩ = some (.int .u64 a0_2) := (blk_cell BK157.out 2).trans rfl; have hcz12_3 : w11.cell? ⟨gb157, 3, none⟩ = some (.int .i64 a0_3) := (blk_cell BK157.out 3).trans rfl; have hcz12_4 : w11.cell? ⟨gb157, 4, none⟩ = some (.int .i64 a0_4) := (blk_cell BK157.out 4).trans rfl; have hcz12_5 : w11.cell? ⟨gb157, 5, none⟩ = some (.bool a0_5) := (blk_cell BK157.out 5).trans rfl; have hfz12_0 := blk_frozen BK157.out 0; have hfz12_1 := blk_frozen BK157.out 1; have hfz12_2 := blk_frozen BK157.out 2; have hfz12_3 := blk_frozen BK157.out 3; have hfz12_4 := blk_frozen BK157.out 4; have hfz12_5 := blk_frozen BK157.out 5))
    go_ret
    exact ⟨by first | rfl | (simp [errW_none, errW_some] <;> rfl) | (simp [*, errW_none, errW_some] <;> rfl), by repeat (first | (with_reducible first | exact HB.out | apply below_alloc | apply pw_below_drewN | apply below_drew1 | refine below_set ?_ GE157.out) | exact HB.out)⟩

end Go.Proofs.Ytchjhnflogojcaa.P
