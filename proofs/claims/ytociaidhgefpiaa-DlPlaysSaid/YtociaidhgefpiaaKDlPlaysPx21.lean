/- What functions of the program, and of its laws, give, each proved of its code by a walk; no condition. -/
import Derived.Test.YtociaidhgefpiaaKDlPlaysPx0
import Derived.Test.YtociaidhgefpiaaKDlPlaysPx6
import Derived.Test.YtociaidhgefpiaaKDlPlaysSq
import Derived.Test.YtociaidhgefpiaaKDlPlaysUsh
namespace Go.Proofs.Ytociaidhgefpiaa.P
open Go.RowKit Go.Proofs.YtociaidhgefpiaaW.PrintWords Go.Proofs.YtociaidhgefpiaaW.PrintLast Go.Proofs.YtociaidhgefpiaaW.PrintMore
attribute [local go_sem] max2_int min2_int max_two min_two max_three min_three max_four min_four   -- for this text's walks alone
set_option linter.unusedVariables false
set_option linter.unusedSimpArgs false

def curtilagelaw21_same.f (k : Nat) (l0_0 : List Int) (l0_1 : List Int) (l1_0 : List Int) (l1_1 : List Int) : Option (Bool) := (curtilageref10_Numbers.f k l0_0 l1_0).bind fun t795 => (if t795 = true then ((curtilageref10_Numbers.f k l0_1 l1_1).bind fun t796 => (some t796)) else (some false))
theorem curtilagelaw21_same.mono : ∀ a0 a1 a2 a3 k, LeO (curtilagelaw21_same.f k a0 a1 a2 a3) (curtilagelaw21_same.f (k + 1) a0 a1 a2 a3) := by
  intro a0 a1 a2 a3 k
  unfold curtilagelaw21_same.f
  repeat' first
      | (with_reducible exact curtilageref10_Numbers.mono _ _ _)
      | (with_reducible exact LeO.refl _)
      | (with_reducible exact LeO.none _)
      | (with_reducible refine LeO.ite ?_ ?_)
      | (with_reducible refine LeO.bind ?_ (fun _ => ?_))
      | exact curtilageref10_Numbers.mono _ _ _
      | exact LeO.none _
      | refine LeO.ite ?_ ?_
      | refine LeO.bind ?_ (fun _ => ?_)
set_option maxHeartbeats 8000000 in
set_option maxRecDepth 100000 in
theorem curtilagelaw21_same.calls (k : Nat) (A0_0 : Option Addr) (c0_0 : Nat) (l0_0 : List Int) (A0_1 : Option Addr) (c0_1 : Nat) (l0_1 : List Int) (A1_0 : Option Addr) (c1_0 : Nat) (l1_0 : List Int) (A1_1 : Option Addr) (c1_1 : Nat) (l1_1 : List Int) (r : Bool) (w : World) (hr0_0 : Kd.C (Kd.int .i64) w A0_0 l0_0.length l0_0) (hc0_0 : l0_0.length ≤ c0_0) (hr0_1 : Kd.C (Kd.int .i64) w A0_1 l0_1.length l0_1) (hc0_1 : l0_1.length ≤ c0_1) (hr1_0 : Kd.C (Kd.int .i64) w A1_0 l1_0.length l1_0) (hc1_0 : l1_0.length ≤ c1_0) (hr1_1 : Kd.C (Kd.int .i64) w A1_1 l1_1.length l1_1) (hc1_1 : l1_1.length ≤ c1_1) (h : curtilagelaw21_same.f k l0_0 l0_1 l1_0 l1_1 = some r) :
  Calls Try.prog 24 #[.agg #[.slice A0_0 l0_0.length c0_0, .slice A0_1 l0_1.length c0_1], .agg #[.slice A1_0 l1_0.length c1_0, .slice A1_1 l1_1.length c1_1]] w fun e w' => e = .returned (.bool r) ∧ Below w.heap.size w w' := by
 have hu28 := Try.underlying28
 have hu53 := Try.underlying53
 have HR0_0 := am hr0_0
 have HC0_0 := am hc0_0
 clear hr0_0 hc0_0
 have HR0_1 := am hr0_1
 have HC0_1 := am hc0_1
 clear hr0_1 hc0_1
 have HR1_0 := am hr1_0
 have HC1_0 := am hc1_0
 clear hr1_0 hc1_0
 have HR1_1 := am hr1_1
 have HC1_1 := am hc1_1
 clear hr1_1 hc1_1
 have HB := am (Below.refl w.heap.size w)
 have H : ((curtilageref10_Numbers.f k l0_0 l1_0).bind fun t795 => (if t795 = true then ((curtilageref10_Numbers.f k l0_1 l1_1).bind fun t796 => (some t796)) else (some false))) = some r := h
 clear h
 replace H := Option.bind_eq_some_iff.mp H
 obtain ⟨t795, A30, H⟩ := H
 replace H : (if t795 = true then ((curtilageref10_Numbers.f k l0_1 l1_1).bind fun t796 => (some t796)) else (some false)) = some r := H
 have A3 := am A30
 clear A30
 by_cases c4 : t795 = true
 ·subst c4
  have H1 : ((curtilageref10_Numbers.f k l0_1 l1_1).bind fun t796 => (some t796)) = some r := by rw [if_pos rfl] at H; exact H
  clear H
  have H := H1
  clear H1
  replace H := Option.bind_eq_some_iff.mp H
  obtain ⟨t796, A50, H⟩ := H
  replace H : (some t796) = some r := H
  have A5 := am A50
  clear A50
  obtain rfl := Option.some.inj H
  go_enter Try.func24, Try.ntmps24
  go_wp2_with (first | ((with_reducible refine gate_dst (N := 2) rfl ?_); refine box_event ?hg (N := 2) ?hd (cs := #[.slice A0_0 l0_0.length c0_0, .slice A0_1 l0_1.length c0_1]) (t := 28) ?hr ?_; (case hd => rfl); (case hg => rfl); (case hr => first | (go_simp; done) | (go_simp; rfl)); intro gb793 hg w6 hbox hb; have n0_ := am (below_step (uc HB.out) hb); have n1_ := am (hbox); have n2_ := am ((by rw [hg]; exact (below_size (uc HB.out)) : w.heap.size ≤ gb793)); have n3_ := am ((by rw [hg]; exact (below_size (uc HB.out)) : w.heap.size ≤ gb793)); revert n0_ n1_ n2_ n3_; clear HB; intro HB BK793 GW793 GE793; clear hb hbox hg) | ((with_reducible refine gate_dst (N := 3) rfl ?_); refine box_event ?hg (N := 3) ?hd (cs := #[.slice A1_0 l1_0.length c1_0, .slice A1_1 l1_1.length c1_1]) (t := 53) ?hr ?_; (case hd => rfl); (case hg => rfl); (case hr => first | (go_simp; done) | (go_simp; rfl)); intro gb794 hg w7 hbox hb; have n0_ := am (blk_below (g := gb793) (o := .cells #[.slice A0_0 l0_0.length c0_0, .slice A0_1 l0_1.length c0_1] 28 (0, 0)) (ub BK793.out) hb); have n1_ := am (below_step (uc HB.out) hb); have n2_ := am (hbox); have n3_ := am ((by rw [hg]; exact (below_size (uc HB.out)) : w.heap.size ≤ gb794)); have n4_ := am ((by rw [hg]; exact (below_size (uc HB.out)) : w.heap.size ≤ gb794)); have n5_ := am ((by rw [hg]; exact Nat.ne_of_lt (blk_lt (g := gb793) (o := .cells #[.slice A0_0 l0_0.length c0_0, .slice A0_1 l0_1.length c0_1] 28 (0, 0)) (ub BK793.out)) : gb793 ≠ gb794)); have n6_ := am ((by rw [hg]; exact Nat.ne_of_gt (blk_lt (g := gb793) (o := .cells #[.slice A0_0 l0_0.length c0_0, .slice A0_1 l0_1.length c0_1] 28 (0, 0)) (ub BK793.out)) : gb794 ≠ gb793)); revert n0_ n1_ n2_ n3_ n4_ n5_ n6_; clear BK793 HB; intro BK793 HB BK794 GW794 GE794 NB793_794 NB794_793; clear hb hbox hg; have hnb8 := NB793_794.out; have hnc8 := NB794_793.out; obtain ⟨hcz9_0, hcz9_1, hfz9_0, hfz9_1⟩ := cells2 BK793.out; obtain ⟨hcz10_0, hcz10_1, hfz10_0, hfz10_1⟩ := cells2 BK794.out) | ((with_reducible refine gate_dst (N := 9) rfl ?_); (with_reducible refine gate_callee (f := 16) rfl ?_); refine gl (some 9) Try.func16 #[.slice A0_0 l0_0.length c0_0, .slice A1_0 l1_0.length c1_0] ?_; (with_reducible refine (curtilageref10_Numbers.calls k _ _ l0_0 _ _ l1_0 true _ ?side1 ?side2 ?side3 ?side4 A3.out).mono ?_); (case side1 => exact us (Kd.C_below HR0_0.out HB.out)); (case side2 => exact HC0_0.out); (case side3 => exact us (Kd.C_below HR1_0.out HB.out)); (case side4 => exact HC1_0.out); rintro e w' ⟨rfl, ⟨nd, rfl⟩⟩; refine ⟨_, rfl, ?_⟩) | (go_at_call 16; (with_reducible refine (curtilageref10_Numbers.calls k _ _ l0_1 _ _ l1_1 t796 _ ?side1 ?side2 ?side3 ?side4 A5.out).mono ?_); (case side1 => repeat (first | exact (Kd.C_below HR0_1.out (uc HB.out)) | (with_reducible refine Kd.C_alloc ?_ _) | (with_reducible refine Kd.C_drewN ?_ _) | (with_reducible refine Kd.C_drew ?_))); (case side2 => exact HC0_1.out); (case side3 => repeat (first | exact (Kd.C_below HR1_1.out (uc HB.out)) | (with_reducible refine Kd.C_alloc ?_ _) | (with_reducible refine Kd.C_drewN ?_ _) | (with_reducible refine Kd.C_drew ?_))); (case side4 => exact HC1_1.out); rintro e w' ⟨rfl, ⟨nd, rfl⟩⟩))
  go_ret
  exact ⟨by first | rfl | (simp [errW_none, errW_some] <;> rfl) | (simp [*, errW_none, errW_some] <;> rfl), uc HB.out⟩
 ·replace c4 := Bool.eq_false_iff.mpr c4
  subst c4
  have H1 : (some false) = some r := by rw [if_neg (show ¬ (false = true) by decide)] at H; exact H
  clear H
  have H := H1
  clear H1
  obtain rfl := Option.some.inj H
  go_enter Try.func24, Try.ntmps24
  go_wp2_with (first | ((with_reducible refine gate_dst (N := 2) rfl ?_); refine box_event ?hg (N := 2) ?hd (cs := #[.slice A0_0 l0_0.length c0_0, .slice A0_1 l0_1.length c0_1]) (t := 28) ?hr ?_; (case hd => rfl); (case hg => rfl); (case hr => first | (go_simp; done) | (go_simp; rfl)); intro gb793 hg w11 hbox hb; have n0_ := am (below_step (uc HB.out) hb); have n1_ := am (hbox); have n2_ := am ((by rw [hg]; exact (below_size (uc HB.out)) : w.heap.size ≤ gb793)); have n3_ := am ((by rw [hg]; exact (below_size (uc HB.out)) : w.heap.size ≤ gb793)); revert n0_ n1_ n2_ n3_; clear HB; intro HB BK793 GW793 GE793; clear hb hbox hg) | ((with_reducible refine gate_dst (N := 3) rfl ?_); refine box_event ?hg (N := 3) ?hd (cs := #[.slice A1_0 l1_0.length c1_0, .slice A1_1 l1_1.length c1_1]) (t := 53) ?hr ?_; (case hd => rfl); (case hg => rfl); (case hr => first | (go_simp; done) | (go_simp; rfl)); intro gb794 hg w12 hbox hb; have n0_ := am (blk_below (g := gb793) (o := .cells #[.slice A0_0 l0_0.length c0_0, .slice A0_1 l0_1.length c0_1] 28 (0, 0)) (ub BK793.out) hb); have n1_ := am (below_step (uc HB.out) hb); have n2_ := am (hbox); have n3_ := am ((by rw [hg]; exact (below_size (uc HB.out)) : w.heap.size ≤ gb794)); have n4_ := am ((by rw [hg]; exact (below_size (uc HB.out)) : w.heap.size ≤ gb794)); have n5_ := am ((by rw [hg]; exact Nat.ne_of_lt (blk_lt (g := gb793) (o := .cells #[.slice A0_0 l0_0.length c0_0, .slice A0_1 l0_1.length c0_1] 28 (0, 0)) (ub BK793.out)) : gb793 ≠ gb794)); have n6_ := am ((by rw [hg]; exact Nat.ne_of_gt (blk_lt (g := gb793) (o := .cells #[.slice A0_0 l0_0.length c0_0, .slice A0_1 l0_1.length c0_1] 28 (0, 0)) (ub BK793.out)) : gb794 ≠ gb793)); revert n0_ n1_ n2_ n3_ n4_ n5_ n6_; clear BK793 HB; intro BK793 HB BK794 GW794 GE794 NB793_794 NB794_793; clear hb hbox hg; have hnb13 := NB793_794.out; have hnc13 := NB794_793.out; obtain ⟨hcz14_0, hcz14_1, hfz14_0, hfz14_1⟩ := cells2 BK793.out; obtain ⟨hcz15_0, hcz15_1, hfz15_0, hfz15_1⟩ := cells2 BK794.out) | ((with_reducible refine gate_dst (N := 9) rfl ?_); (with_reducible refine gate_callee (f := 16) rfl ?_); refine gl (some 9) Try.func16 #[.slice A0_0 l0_0.length c0_0, .slice A1_0 l1_0.length c1_0] ?_; (with_reducible refine (curtilageref10_Numbers.calls k _ _ l0_0 _ _ l1_0 false _ ?side1 ?side2 ?side3 ?side4 A3.out).mono ?_); (case side1 => exact us (Kd.C_below HR0_0.out HB.out)); (case side2 => exact HC0_0.out); (case side3 => exact us (Kd.C_below HR1_0.out HB.out)); (case side4 => exact HC1_0.out); rintro e w' ⟨rfl, ⟨nd, rfl⟩⟩; refine ⟨_, rfl, ?_⟩))
  go_ret
  exact ⟨by first | rfl | (simp [errW_none, errW_some] <;> rfl) | (simp [*, errW_none, errW_some] <;> rfl), uc HB.out⟩

end Go.Proofs.Ytociaidhgefpiaa.P
