/- What functions of the program, and of its laws, give, each proved of its code by a walk; no condition. -/
import Derived.Test.YtafpkpalkaphkaaDoorKCapChecksPx0
import Derived.Test.YtafpkpalkaphkaaDoorKCapChecksPx1
import Derived.Test.YtafpkpalkaphkaaDoorKCapChecksPx3
import Derived.Test.YtafpkpalkaphkaaDoorKCapChecksPx4
import Derived.Test.YtafpkpalkaphkaaDoorKCapChecksPx5
import Derived.Test.YtafpkpalkaphkaaDoorKCapChecksPx6
import Derived.Test.YtafpkpalkaphkaaDoorKCapChecksPx8
import Derived.Test.YtafpkpalkaphkaaDoorKCapChecksPx9
namespace Go.Proofs.YtafpkpalkaphkaaDoor.P
open Go.RowKit Go.Proofs.YtafpkpalkaphkaaDoorW.PrintWords Go.Proofs.YtafpkpalkaphkaaDoorW.PrintLast Go.Proofs.YtafpkpalkaphkaaDoorW.PrintMore
attribute [local go_sem] max2_int min2_int max_two min_two max_three min_three max_four min_four   -- for this text's walks alone
set_option linter.unusedVariables false
set_option linter.unusedSimpArgs false

attribute [local go_sem high] eqA24
def curtilagelaw02_CapSeals.j0 : Nat → Bool → Bool → Int → Int → Int → Int → Int → Bool → Int → Int → Int → Int → Int → Bool → Option (Bool)
  | 0, _, _, _, _, _, _, _, _, _, _, _, _, _, _ => none
  | k + 1, x5, x20, x329000, x329001, x329002, x329003, x329004, x329005, x330000, x330001, x330002, x330003, x330004, x330005 => if x20 = true then (some x5) else ((cap_Seal.f x329000 x329001 x329002 x329003 x329004 x329005 x330000 x330001 x330002 x330003 x330004 x330005).bind fun bt333 => ((cap_Unseal.f x329000 x329001 x329002 x329003 x329004 x329005 x330000 x330001 x330002 x330003 x330004 x330005).bind fun bt340 => (if x5 = true then ((curtilageref02_Seal.f k x329000 x329001 x329002 x329003 x329004 x329005 x330000 x330001 x330002 x330003 x330004 x330005).bind fun bt347 => (if (bt333.1 == bt347.1 && (bt333.2.1 == bt347.2.1 && (bt333.2.2.1 == bt347.2.2.1 && (bt333.2.2.2.1 == bt347.2.2.2.1 && (bt333.2.2.2.2.1 == bt347.2.2.2.2.1 && (bt333.2.2.2.2.2 == bt347.2.2.2.2.2)))))) = true then ((curtilageref02_Unseal.f k x329000 x329001 x329002 x329003 x329004 x329005 x330000 x330001 x330002 x330003 x330004 x330005).bind fun bt353 => (some (bt340.1 == bt353.1 && (bt340.2.1 == bt353.2.1 && (bt340.2.2.1 == bt353.2.2.1 && (bt340.2.2.2.1 == bt353.2.2.2.1 && (bt340.2.2.2.2.1 == bt353.2.2.2.2.1 && (bt340.2.2.2.2.2 == bt353.2.2.2.2.2)))))))) else (some false))) else (some false))))
def curtilagelaw02_CapSeals.f (k : Nat) (a0_0 : Int) (a0_1 : Int) (a0_2 : Int) (a0_3 : Int) (a0_4 : Int) (a0_5 : Bool) (a1_0 : Int) (a1_1 : Int) (a1_2 : Int) (a1_3 : Int) (a1_4 : Int) (a1_5 : Bool) : Option (Bool) := (curtilagelaw02_awake.f k).bind fun t330 => ((curtilageref02_Right.f a0_0 a0_1 a0_2 a0_3 a0_4 a0_5).bind fun t331 => ((curtilageref02_Right.f a1_0 a1_1 a1_2 a1_3 a1_4 a1_5).bind fun t332 => (if t331 = true then (curtilagelaw02_CapSeals.j0 k t330 (!t332) a0_0 a0_1 a0_2 a0_3 a0_4 a0_5 a1_0 a1_1 a1_2 a1_3 a1_4 a1_5) else (curtilagelaw02_CapSeals.j0 k t330 true a0_0 a0_1 a0_2 a0_3 a0_4 a0_5 a1_0 a1_1 a1_2 a1_3 a1_4 a1_5))))
theorem curtilagelaw02_CapSeals.mono_l : ∀ k, (∀ y0 y1 y2 y3 y4 y5 y6 y7 y8 y9 y10 y11 y12 y13, LeO (curtilagelaw02_CapSeals.j0 k y0 y1 y2 y3 y4 y5 y6 y7 y8 y9 y10 y11 y12 y13) (curtilagelaw02_CapSeals.j0 (k + 1) y0 y1 y2 y3 y4 y5 y6 y7 y8 y9 y10 y11 y12 y13))
  | 0 => fun _ _ _ _ _ _ _ _ _ _ _ _ _ _ r h => by simp [curtilagelaw02_CapSeals.j0] at h
  | k + 1 => by
    have ih0 := curtilagelaw02_CapSeals.mono_l k
    · intro y0 y1 y2 y3 y4 y5 y6 y7 y8 y9 y10 y11 y12 y13
      unfold curtilagelaw02_CapSeals.j0
      repeat' first
      | (with_reducible exact ih0 _ _ _ _ _ _ _ _ _ _ _ _ _ _)
      | (with_reducible exact curtilagelaw02_awake.mono _)
      | (with_reducible exact curtilageref02_Seal.mono _ _ _ _ _ _ _ _ _ _ _ _ _)
      | (with_reducible exact curtilageref02_Unseal.mono _ _ _ _ _ _ _ _ _ _ _ _ _)
      | (with_reducible exact LeO.refl _)
      | (with_reducible exact LeO.none _)
      | (with_reducible refine LeO.ite ?_ ?_)
      | (with_reducible refine LeO.bind ?_ (fun _ => ?_))
      | exact ih0 _ _ _ _ _ _ _ _ _ _ _ _ _ _
      | exact curtilagelaw02_awake.mono _
      | exact curtilageref02_Seal.mono _ _ _ _ _ _ _ _ _ _ _ _ _
      | exact curtilageref02_Unseal.mono _ _ _ _ _ _ _ _ _ _ _ _ _
      | exact LeO.none _
      | refine LeO.ite ?_ ?_
      | refine LeO.bind ?_ (fun _ => ?_)
theorem curtilagelaw02_CapSeals.mono : ∀ a0 a1 a2 a3 a4 a5 a6 a7 a8 a9 a10 a11 k, LeO (curtilagelaw02_CapSeals.f k a0 a1 a2 a3 a4 a5 a6 a7 a8 a9 a10 a11) (curtilagelaw02_CapSeals.f (k + 1) a0 a1 a2 a3 a4 a5 a6 a7 a8 a9 a10 a11) := by
  intro a0 a1 a2 a3 a4 a5 a6 a7 a8 a9 a10 a11 k
  have ih0 := curtilagelaw02_CapSeals.mono_l k
  unfold curtilagelaw02_CapSeals.f
  repeat' first
      | (with_reducible exact ih0 _ _ _ _ _ _ _ _ _ _ _ _ _ _)
      | (with_reducible exact curtilagelaw02_awake.mono _)
      | (with_reducible exact curtilageref02_Seal.mono _ _ _ _ _ _ _ _ _ _ _ _ _)
      | (with_reducible exact curtilageref02_Unseal.mono _ _ _ _ _ _ _ _ _ _ _ _ _)
      | (with_reducible exact LeO.refl _)
      | (with_reducible exact LeO.none _)
      | (with_reducible refine LeO.ite ?_ ?_)
      | (with_reducible refine LeO.bind ?_ (fun _ => ?_))
      | exact ih0 _ _ _ _ _ _ _ _ _ _ _ _ _ _
      | exact curtilagelaw02_awake.mono _
      | exact curtilageref02_Seal.mono _ _ _ _ _ _ _ _ _ _ _ _ _
      | exact curtilageref02_Unseal.mono _ _ _ _ _ _ _ _ _ _ _ _ _
      | exact LeO.none _
      | refine LeO.ite ?_ ?_
      | refine LeO.bind ?_ (fun _ => ?_)
def curtilagelaw02_CapTexts.j0 : Nat → Bool → Bool → Int → Int → Int → Int → Int → Bool → Int → Int → Int → Int → Int → Bool → Option (Bool)
  | 0, _, _, _, _, _, _, _, _, _, _, _, _, _, _ => none
  | k + 1, x5, x20, x360000, x360001, x360002, x360003, x360004, x360005, x361000, x361001, x361002, x361003, x361004, x361005 => if x20 = true then (some x5) else ((cap_Text.f k x360000 x360001 x360002 x360003 x360004 x360005).bind fun t364 => ((cap_Text.f k x361000 x361001 x361002 x361003 x361004 x361005).bind fun t365 => (if x5 = true then (some ((t364.toList == t365.toList) == (x360000 == x361000 && (x360001 == x361001 && (x360002 == x361002 && (x360003 == x361003 && (x360004 == x361004 && (x360005 == x361005)))))))) else (some false))))
def curtilagelaw02_CapTexts.f (k : Nat) (a0_0 : Int) (a0_1 : Int) (a0_2 : Int) (a0_3 : Int) (a0_4 : Int) (a0_5 : Bool) (a1_0 : Int) (a1_1 : Int) (a1_2 : Int) (a1_3 : Int) (a1_4 : Int) (a1_5 : Bool) : Option (Bool) := (curtilagelaw02_awake.f k).bind fun t361 => ((curtilageref02_Right.f a0_0 a0_1 a0_2 a0_3 a0_4 a0_5).bind fun t362 => ((curtilageref02_Right.f a1_0 a1_1 a1_2 a1_3 a1_4 a1_5).bind fun t363 => (if t362 = true then (curtilagelaw02_CapTexts.j0 k t361 (!t363) a0_0 a0_1 a0_2 a0_3 a0_4 a0_5 a1_0 a1_1 a1_2 a1_3 a1_4 a1_5) else (curtilagelaw02_CapTexts.j0 k t361 true a0_0 a0_1 a0_2 a0_3 a0_4 a0_5 a1_0 a1_1 a1_2 a1_3 a1_4 a1_5))))
theorem curtilagelaw02_CapTexts.mono_l : ∀ k, (∀ y0 y1 y2 y3 y4 y5 y6 y7 y8 y9 y10 y11 y12 y13, LeO (curtilagelaw02_CapTexts.j0 k y0 y1 y2 y3 y4 y5 y6 y7 y8 y9 y10 y11 y12 y13) (curtilagelaw02_CapTexts.j0 (k + 1) y0 y1 y2 y3 y4 y5 y6 y7 y8 y9 y10 y11 y12 y13))
  | 0 => fun _ _ _ _ _ _ _ _ _ _ _ _ _ _ r h => by simp [curtilagelaw02_CapTexts.j0] at h
  | k + 1 => by
    have ih0 := curtilagelaw02_CapTexts.mono_l k
    · intro y0 y1 y2 y3 y4 y5 y6 y7 y8 y9 y10 y11 y12 y13
      unfold curtilagelaw02_CapTexts.j0
      repeat' first
      | (with_reducible exact ih0 _ _ _ _ _ _ _ _ _ _ _ _ _ _)
      | (with_reducible exact cap_Text.mono _ _ _ _ _ _ _)
      | (with_reducible exact curtilagelaw02_awake.mono _)
      | (with_reducible exact LeO.refl _)
      | (with_reducible exact LeO.none _)
      | (with_reducible refine LeO.ite ?_ ?_)
      | (with_reducible refine LeO.bind ?_ (fun _ => ?_))
      | exact ih0 _ _ _ _ _ _ _ _ _ _ _ _ _ _
      | exact cap_Text.mono _ _ _ _ _ _ _
      | exact curtilagelaw02_awake.mono _
      | exact LeO.none _
      | refine LeO.ite ?_ ?_
      | refine LeO.bind ?_ (fun _ => ?_)
theorem curtilagelaw02_CapTexts.mono : ∀ a0 a1 a2 a3 a4 a5 a6 a7 a8 a9 a10 a11 k, LeO (curtilagelaw02_CapTexts.f k a0 a1 a2 a3 a4 a5 a6 a7 a8 a9 a10 a11) (curtilagelaw02_CapTexts.f (k + 1) a0 a1 a2 a3 a4 a5 a6 a7 a8 a9 a10 a11) := by
  intro a0 a1 a2 a3 a4 a5 a6 a7 a8 a9 a10 a11 k
  have ih0 := curtilagelaw02_CapTexts.mono_l k
  unfold curtilagelaw02_CapTexts.f
  repeat' first
      | (with_reducible exact ih0 _ _ _ _ _ _ _ _ _ _ _ _ _ _)
      | (with_reducible exact cap_Text.mono _ _ _ _ _ _ _)
      | (with_reducible exact curtilagelaw02_awake.mono _)
      | (with_reducible exact LeO.refl _)
      | (with_reducible exact LeO.none _)
      | (with_reducible refine LeO.ite ?_ ?_)
      | (with_reducible refine LeO.bind ?_ (fun _ => ?_))
      | exact ih0 _ _ _ _ _ _ _ _ _ _ _ _ _ _
      | exact cap_Text.mono _ _ _ _ _ _ _
      | exact curtilagelaw02_awake.mono _
      | exact LeO.none _
      | refine LeO.ite ?_ ?_
      | refine LeO.bind ?_ (fun _ => ?_)
def cap_And.f (a0_0 : Int) (a0_1 : Int) (a0_2 : Int) (a0_3 : Int) (a0_4 : Int) (a0_5 : Bool) (a1 : Int) : Option (Int × Int × Int × Int × Int × Bool) := (cap_open.f a0_0 a0_1 a0_2 (Go.bits .and .i64 a0_3 a1) a0_4 a0_5).bind fun bt368 => (some (bt368.1, bt368.2.1, bt368.2.2.1, bt368.2.2.2.1, bt368.2.2.2.2.1, bt368.2.2.2.2.2))
-- NOT PRINTED: function 5 (curtilagelaw02_CapSealed)

def cap_Int.f (a0 : Int) : Option (Int × Int × Int × Int × Int × Bool) := some (0, 0, a0, 0, (-1), false)
def cap_Null.f  : Option (Int × Int × Int × Int × Int × Bool) := (cap_Int.f 0).bind fun bt437 => (some (bt437.1, bt437.2.1, bt437.2.2.1, bt437.2.2.2.1, bt437.2.2.2.2.1, bt437.2.2.2.2.2))
def curtilageref02_Int.f (a0 : Int) : Option (Int × Int × Int × Int × Int × Bool) := some (0, 0, a0, 0, (-1), false)
def curtilageref02_Root.f (a0 : Int) : Option (Int × Int × Int × Int × Int × Bool) := some (0, a0, 0, 255, (-1), true)
def curtilageref02_Move.f (a0_0 : Int) (a0_1 : Int) (a0_2 : Int) (a0_3 : Int) (a0_4 : Int) (a0_5 : Bool) (a1 : Int) : Option (Int × Int × Int × Int × Int × Bool) := if a0_5 = true then (some (a0_0, a0_1, a1, a0_3, a0_4, (a0_4 == (-1)))) else (some (a0_0, a0_1, a1, a0_3, a0_4, false))
def curtilageref02_Inside.f (a0_0 : Int) (a0_1 : Int) (a0_2 : Int) (a0_3 : Int) (a0_4 : Int) (a0_5 : Bool) (a1 : Int) : Option (Bool) := if a0_2 < a0_0 then (some false) else (if a0_2 > a0_1 then (some false) else (some (decide (a1 ≤ (IntKind.u64.wrap (a0_1 - a0_2))))))
set_option maxHeartbeats 8000000 in
set_option maxRecDepth 100000 in
theorem curtilageref02_Inside.calls (a0_0 : Int) (a0_1 : Int) (a0_2 : Int) (a0_3 : Int) (a0_4 : Int) (a0_5 : Bool) (a1 : Int) (r : Bool) (w : World) (h : curtilageref02_Inside.f a0_0 a0_1 a0_2 a0_3 a0_4 a0_5 a1 = some r) :
    Calls Tryd.prog 43 #[.agg #[.int .u64 a0_0, .int .u64 a0_1, .int .u64 a0_2, .int .i64 a0_3, .int .i64 a0_4, .bool a0_5], .int .u64 a1] w fun e w' => e = .returned (.bool r) ∧ Below w.heap.size w w' := by
  have hu24 := Tryd.underlying24
  have HB := Aside0.mk (Below.refl w.heap.size w)
  have H : (if a0_2 < a0_0 then (some false) else (if a0_2 > a0_1 then (some false) else (some (decide (a1 ≤ (IntKind.u64.wrap (a0_1 - a0_2))))))) = some r := h
  clear h
  by_cases c3 : a0_2 < a0_0
  · rw [if_pos c3] at H
    have c3b0 : decide (a0_2 < a0_0) = true := decide_eq_true c3
    clear c3
    obtain rfl := Option.some.inj H
    go_enter Tryd.func43, Tryd.ntmps43
    go_wp2_with (first | ((with_reducible refine gate_dst (N := 2) rfl ?_); refine box_event ?hg (N := 2) ?hd (cs := #[.int .u64 a0_0, .int .u64 a0_1, .int .u64 a0_2, .int .i64 a0_3, .int .i64 a0_4, .bool a0_5]) (t := 24) ?hr ?_; (case hd => rfl); (case hg => rfl); (case hr => first | (go_simp; done) | (go_simp; rfl)); intro gb447 hg w4 hbox hb; have n0_ := Aside0.mk (below_step (by repeat (first | (with_reducible first | exact HB.out | apply below_alloc | apply pw_below_drewN | apply below_drew1) | exact HB.out)) hb); have n1_ := Aside0.mk (hbox); have n2_ := Aside0.mk ((by rw [hg]; exact (below_size (by repeat (first | (with_reducible first | exact HB.out | apply below_alloc | apply pw_below_drewN | apply below_drew1) | exact HB.out))) : w.heap.size ≤ gb447)); have n3_ := Aside0.mk ((by rw [hg]; exact (below_size (by repeat (first | (with_reducible first | exact HB.out | apply below_alloc | apply pw_below_drewN | apply below_drew1) | exact HB.out))) : w.heap.size ≤ gb447)); clear HB; have HB := n0_; have BK447 := n1_; have GW447 := n2_; have GE447 := n3_; clear n0_ n1_ n2_ n3_; clear hb hbox hg; obtain ⟨hcz5_0, hcz5_1, hcz5_2, hcz5_3, hcz5_4, hcz5_5, hfz5_0, hfz5_1, hfz5_2, hfz5_3, hfz5_4, hfz5_5⟩ := cells6 BK447.out))
    go_ret
    exact ⟨by first | rfl | (simp [errW_none, errW_some] <;> rfl) | (simp [*, errW_none, errW_some] <;> rfl), by repeat (first | (with_reducible first | exact HB.out | apply below_alloc | apply pw_below_drewN | apply below_drew1 | refine below_set ?_ GE447.out) | exact HB.out)⟩
  · rw [if_neg c3] at H
    have c3b0 : decide (a0_2 < a0_0) = false := decide_eq_false c3
    clear c3
    by_cases c6 : a0_2 > a0_1
    · rw [if_pos c6] at H
      have c6b0 : decide (a0_1 < a0_2) = true := decide_eq_true c6
      clear c6
      obtain rfl := Option.some.inj H
      go_enter Tryd.func43, Tryd.ntmps43
      go_wp2_with (first | ((with_reducible refine gate_dst (N := 2) rfl ?_); refine box_event ?hg (N := 2) ?hd (cs := #[.int .u64 a0_0, .int .u64 a0_1, .int .u64 a0_2, .int .i64 a0_3, .int .i64 a0_4, .bool a0_5]) (t := 24) ?hr ?_; (case hd => rfl); (case hg => rfl); (case hr => first | (go_simp; done) | (go_simp; rfl)); intro gb447 hg w7 hbox hb; have n0_ := Aside0.mk (below_step (by repeat (first | (with_reducible first | exact HB.out | apply below_alloc | apply pw_below_drewN | apply below_drew1) | exact HB.out)) hb); have n1_ := Aside0.mk (hbox); have n2_ := Aside0.mk ((by rw [hg]; exact (below_size (by repeat (first | (with_reducible first | exact HB.out | apply below_alloc | apply pw_below_drewN | apply below_drew1) | exact HB.out))) : w.heap.size ≤ gb447)); have n3_ := Aside0.mk ((by rw [hg]; exact (below_size (by repeat (first | (with_reducible first | exact HB.out | apply below_alloc | apply pw_below_drewN | apply below_drew1) | exact HB.out))) : w.heap.size ≤ gb447)); clear HB; have HB := n0_; have BK447 := n1_; have GW447 := n2_; have GE447 := n3_; clear n0_ n1_ n2_ n3_; clear hb hbox hg; obtain ⟨hcz8_0, hcz8_1, hcz8_2, hcz8_3, hcz8_4, hcz8_5, hfz8_0, hfz8_1, hfz8_2, hfz8_3, hfz8_4, hfz8_5⟩ := cells6 BK447.out))
      go_ret
      exact ⟨by first | rfl | (simp [errW_none, errW_some] <;> rfl) | (simp [*, errW_none, errW_some] <;> rfl), by repeat (first | (with_reducible first | exact HB.out | apply below_alloc | apply pw_below_drewN | apply below_drew1 | refine below_set ?_ GE447.out) | exact HB.out)⟩
    · rw [if_neg c6] at H
      have c6b0 : decide (a0_1 < a0_2) = false := decide_eq_false c6
      clear c6
      obtain rfl := Option.some.inj H
      go_enter Tryd.func43, Tryd.ntmps43
      go_wp2_with (first | ((with_reducible refine gate_dst (N := 2) rfl ?_); refine box_event ?hg (N := 2) ?hd (cs := #[.int .u64 a0_0, .int .u64 a0_1, .int .u64 a0_2, .int .i64 a0_3, .int .i64 a0_4, .bool a0_5]) (t := 24) ?hr ?_; (case hd => rfl); (case hg => rfl); (case hr => first | (go_simp; done) | (go_simp; rfl)); intro gb447 hg w9 hbox hb; have n0_ := Aside0.mk (below_step (by repeat (first | (with_reducible first | exact HB.out | apply below_alloc | apply pw_below_drewN | apply below_drew1) | exact HB.out)) hb); have n1_ := Aside0.mk (hbox); have n2_ := Aside0.mk ((by rw [hg]; exact (below_size (by repeat (first | (with_reducible first | exact HB.out | apply below_alloc | apply pw_below_drewN | apply below_drew1) | exact HB.out))) : w.heap.size ≤ gb447)); have n3_ := Aside0.mk ((by rw [hg]; exact (below_size (by repeat (first | (with_reducible first | exact HB.out | apply below_alloc | apply pw_below_drewN | apply below_drew1) | exact HB.out))) : w.heap.size ≤ gb447)); clear HB; have HB := n0_; have BK447 := n1_; have GW447 := n2_; have GE447 := n3_; clear n0_ n1_ n2_ n3_; clear hb hbox hg; obtain ⟨hcz10_0, hcz10_1, hcz10_2, hcz10_3, hcz10_4, hcz10_5, hfz10_0, hfz10_1, hfz10_2, hfz10_3, hfz10_4, hfz10_5⟩ := cells6 BK447.out))
      go_ret
      exact ⟨by first | rfl | (simp [errW_none, errW_some] <;> rfl) | (simp [*, errW_none, errW_some] <;> rfl), by repeat (first | (with_reducible first | exact HB.out | apply below_alloc | apply pw_below_drewN | apply below_drew1 | refine below_set ?_ GE447.out) | exact HB.out)⟩

def curtilageref02_Bound.f (a0_0 : Int) (a0_1 : Int) (a0_2 : Int) (a0_3 : Int) (a0_4 : Int) (a0_5 : Bool) (a1 : Int) : Option (Int × Int × Int × Int × Int × Bool) := (curtilageref02_Inside.f a0_0 a0_1 a0_2 a0_3 a0_4 a0_5 a1).bind fun t450 => (if a0_5 = true then (if a0_4 = (-1) then (if t450 = true then (some (a0_2, IntKind.u64.wrap (a0_2 + a1), a0_2, a0_3, (-1), true)) else ((curtilageref02_Clear.f a0_0 a0_1 a0_2 a0_3 a0_4 a0_5).bind fun bt451 => (some (bt451.1, bt451.2.1, bt451.2.2.1, bt451.2.2.2.1, bt451.2.2.2.2.1, bt451.2.2.2.2.2)))) else ((curtilageref02_Clear.f a0_0 a0_1 a0_2 a0_3 a0_4 a0_5).bind fun bt457 => (some (bt457.1, bt457.2.1, bt457.2.2.1, bt457.2.2.2.1, bt457.2.2.2.2.1, bt457.2.2.2.2.2)))) else ((curtilageref02_Clear.f a0_0 a0_1 a0_2 a0_3 a0_4 a0_5).bind fun bt463 => (some (bt463.1, bt463.2.1, bt463.2.2.1, bt463.2.2.2.1, bt463.2.2.2.2.1, bt463.2.2.2.2.2))))
end Go.Proofs.YtafpkpalkaphkaaDoor.P
