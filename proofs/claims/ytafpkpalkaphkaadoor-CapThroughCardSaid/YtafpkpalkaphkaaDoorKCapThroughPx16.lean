/- What functions of the program, and of its laws, give, each proved of its code by a walk; no condition. -/
import Derived.Test.YtafpkpalkaphkaaDoorKCapThroughPx0
import Derived.Test.YtafpkpalkaphkaaDoorKCapThroughPx3
import Derived.Test.YtafpkpalkaphkaaDoorKCapThroughPx6
import Derived.Test.YtafpkpalkaphkaaDoorKCapThroughPx8
import Derived.Test.YtafpkpalkaphkaaDoorKCapThroughPx9
import Derived.Test.YtafpkpalkaphkaaDoorKCapThroughPx13
namespace Go.Proofs.YtafpkpalkaphkaaDoor.P
open Go.RowKit Go.Proofs.YtafpkpalkaphkaaDoorW.PrintWords Go.Proofs.YtafpkpalkaphkaaDoorW.PrintLast Go.Proofs.YtafpkpalkaphkaaDoorW.PrintMore
attribute [local go_sem] max2_int min2_int max_two min_two max_three min_three max_four min_four   -- for this text's walks alone
set_option linter.unusedVariables false
set_option linter.unusedSimpArgs false

mutual
def curtilagelaw02_CapThrough.j0 : Nat → Int → Int → Bool → Bool → Int → Int → Int → Int → Int → Bool → Int → Int → Int → Int → Int → Bool → Int → Int → Int → Int → Int → Bool → Option (Bool)
  | 0, _, _, _, _, _, _, _, _, _, _, _, _, _, _, _, _, _, _, _, _, _, _ => none
  | k + 1, x3, x4, x11, x44, x596000, x596001, x596002, x596003, x596004, x596005, x597000, x597001, x597002, x597003, x597004, x597005, x598000, x598001, x598002, x598003, x598004, x598005 => if x44 = true then (some x11) else ((cap_Within.f x596000 x596001 x596002 x596003 x596004 x596005 x597000 x597001 x597002 x597003 x597004 x597005).bind fun t602 => ((cap_Within.f x597000 x597001 x597002 x597003 x597004 x597005 x598000 x598001 x598002 x598003 x598004 x598005).bind fun t603 => ((cap_Within.f x596000 x596001 x596002 x596003 x596004 x596005 x598000 x598001 x598002 x598003 x598004 x598005).bind fun t604 => (if t602 = true then (if t603 = true then (if t604 = true then (curtilagelaw02_CapThrough.j1 k x3 x4 x11 t602 false x596000 x596001 x596002 x596003 x596004 x596005 x597000 x597001 x597002 x597003 x597004 x597005) else (if x597000 < x597001 then (curtilagelaw02_CapThrough.j1 k x3 x4 x11 t602 true x596000 x596001 x596002 x596003 x596004 x596005 x597000 x597001 x597002 x597003 x597004 x597005) else (curtilagelaw02_CapThrough.j1 k x3 x4 x11 t602 (decide (x596000 ≥ x596001)) x596000 x596001 x596002 x596003 x596004 x596005 x597000 x597001 x597002 x597003 x597004 x597005))) else (curtilagelaw02_CapThrough.j1 k x3 x4 x11 t602 false x596000 x596001 x596002 x596003 x596004 x596005 x597000 x597001 x597002 x597003 x597004 x597005)) else (curtilagelaw02_CapThrough.j1 k x3 x4 x11 t602 false x596000 x596001 x596002 x596003 x596004 x596005 x597000 x597001 x597002 x597003 x597004 x597005)))))
def curtilagelaw02_CapThrough.j1 : Nat → Int → Int → Bool → Bool → Bool → Int → Int → Int → Int → Int → Bool → Int → Int → Int → Int → Int → Bool → Option (Bool)
  | 0, _, _, _, _, _, _, _, _, _, _, _, _, _, _, _, _, _ => none
  | k + 1, x3, x4, x11, x15, x76, x596000, x596001, x596002, x596003, x596004, x596005, x597000, x597001, x597002, x597003, x597004, x597005 => if x76 = true then (some false) else ((cap_Check.f x596000 x596001 x596002 x596003 x596004 x596005 x3 x4).bind fun t605 => ((cap_Move.f x597000 x597001 x597002 x597003 x597004 x597005 x596002).bind fun bt606 => ((cap_Check.f bt606.1 bt606.2.1 bt606.2.2.1 bt606.2.2.2.1 bt606.2.2.2.2.1 bt606.2.2.2.2.2 x3 x4).bind fun t612 => (if x11 = true then (if x15 = true then (if t605 = 0 then (if x3 = 0 then (some true) else (some (t612 == 0))) else (some true)) else (some true)) else (some false)))))
end
def curtilagelaw02_CapThrough.f (k : Nat) (a0_0 : Int) (a0_1 : Int) (a0_2 : Int) (a0_3 : Int) (a0_4 : Int) (a0_5 : Bool) (a1_0 : Int) (a1_1 : Int) (a1_2 : Int) (a1_3 : Int) (a1_4 : Int) (a1_5 : Bool) (a2_0 : Int) (a2_1 : Int) (a2_2 : Int) (a2_3 : Int) (a2_4 : Int) (a2_5 : Bool) (a3 : Int) (a4 : Int) : Option (Bool) := (curtilagelaw02_awake.f k).bind fun t598 => ((curtilageref02_Right.f a0_0 a0_1 a0_2 a0_3 a0_4 a0_5).bind fun t599 => ((curtilageref02_Right.f a1_0 a1_1 a1_2 a1_3 a1_4 a1_5).bind fun t600 => ((curtilageref02_Right.f a2_0 a2_1 a2_2 a2_3 a2_4 a2_5).bind fun t601 => (if t599 = true then (if t600 = true then (if t601 = true then (if a4 < 0 then (curtilagelaw02_CapThrough.j0 k a3 a4 t598 true a0_0 a0_1 a0_2 a0_3 a0_4 a0_5 a1_0 a1_1 a1_2 a1_3 a1_4 a1_5 a2_0 a2_1 a2_2 a2_3 a2_4 a2_5) else (curtilagelaw02_CapThrough.j0 k a3 a4 t598 (decide (a4 > 255)) a0_0 a0_1 a0_2 a0_3 a0_4 a0_5 a1_0 a1_1 a1_2 a1_3 a1_4 a1_5 a2_0 a2_1 a2_2 a2_3 a2_4 a2_5)) else (curtilagelaw02_CapThrough.j0 k a3 a4 t598 true a0_0 a0_1 a0_2 a0_3 a0_4 a0_5 a1_0 a1_1 a1_2 a1_3 a1_4 a1_5 a2_0 a2_1 a2_2 a2_3 a2_4 a2_5)) else (curtilagelaw02_CapThrough.j0 k a3 a4 t598 true a0_0 a0_1 a0_2 a0_3 a0_4 a0_5 a1_0 a1_1 a1_2 a1_3 a1_4 a1_5 a2_0 a2_1 a2_2 a2_3 a2_4 a2_5)) else (curtilagelaw02_CapThrough.j0 k a3 a4 t598 true a0_0 a0_1 a0_2 a0_3 a0_4 a0_5 a1_0 a1_1 a1_2 a1_3 a1_4 a1_5 a2_0 a2_1 a2_2 a2_3 a2_4 a2_5)))))
theorem curtilagelaw02_CapThrough.mono_l : ∀ k, (∀ y0 y1 y2 y3 y4 y5 y6 y7 y8 y9 y10 y11 y12 y13 y14 y15 y16 y17 y18 y19 y20 y21, LeO (curtilagelaw02_CapThrough.j0 k y0 y1 y2 y3 y4 y5 y6 y7 y8 y9 y10 y11 y12 y13 y14 y15 y16 y17 y18 y19 y20 y21) (curtilagelaw02_CapThrough.j0 (k + 1) y0 y1 y2 y3 y4 y5 y6 y7 y8 y9 y10 y11 y12 y13 y14 y15 y16 y17 y18 y19 y20 y21)) ∧ (∀ y0 y1 y2 y3 y4 y5 y6 y7 y8 y9 y10 y11 y12 y13 y14 y15 y16, LeO (curtilagelaw02_CapThrough.j1 k y0 y1 y2 y3 y4 y5 y6 y7 y8 y9 y10 y11 y12 y13 y14 y15 y16) (curtilagelaw02_CapThrough.j1 (k + 1) y0 y1 y2 y3 y4 y5 y6 y7 y8 y9 y10 y11 y12 y13 y14 y15 y16))
  | 0 => ⟨fun _ _ _ _ _ _ _ _ _ _ _ _ _ _ _ _ _ _ _ _ _ _ r h => by simp [curtilagelaw02_CapThrough.j0] at h, fun _ _ _ _ _ _ _ _ _ _ _ _ _ _ _ _ _ r h => by simp [curtilagelaw02_CapThrough.j1] at h⟩
  | k + 1 => by
    obtain ⟨ih0, ih1⟩ := curtilagelaw02_CapThrough.mono_l k
    refine ⟨?_, ?_⟩
    · intro y0 y1 y2 y3 y4 y5 y6 y7 y8 y9 y10 y11 y12 y13 y14 y15 y16 y17 y18 y19 y20 y21
      unfold curtilagelaw02_CapThrough.j0
      repeat' first
      | (with_reducible exact ih0 _ _ _ _ _ _ _ _ _ _ _ _ _ _ _ _ _ _ _ _ _ _)
      | (with_reducible exact ih1 _ _ _ _ _ _ _ _ _ _ _ _ _ _ _ _ _)
      | (with_reducible exact curtilagelaw02_awake.mono _)
      | (with_reducible exact LeO.refl _)
      | (with_reducible exact LeO.none _)
      | (with_reducible refine LeO.ite ?_ ?_)
      | (with_reducible refine LeO.bind ?_ (fun _ => ?_))
      | exact ih0 _ _ _ _ _ _ _ _ _ _ _ _ _ _ _ _ _ _ _ _ _ _
      | exact ih1 _ _ _ _ _ _ _ _ _ _ _ _ _ _ _ _ _
      | exact curtilagelaw02_awake.mono _
      | exact LeO.none _
      | refine LeO.ite ?_ ?_
      | refine LeO.bind ?_ (fun _ => ?_)
    · intro y0 y1 y2 y3 y4 y5 y6 y7 y8 y9 y10 y11 y12 y13 y14 y15 y16
      unfold curtilagelaw02_CapThrough.j1
      repeat' first
      | (with_reducible exact ih0 _ _ _ _ _ _ _ _ _ _ _ _ _ _ _ _ _ _ _ _ _ _)
      | (with_reducible exact ih1 _ _ _ _ _ _ _ _ _ _ _ _ _ _ _ _ _)
      | (with_reducible exact curtilagelaw02_awake.mono _)
      | (with_reducible exact LeO.refl _)
      | (with_reducible exact LeO.none _)
      | (with_reducible refine LeO.ite ?_ ?_)
      | (with_reducible refine LeO.bind ?_ (fun _ => ?_))
      | exact ih0 _ _ _ _ _ _ _ _ _ _ _ _ _ _ _ _ _ _ _ _ _ _
      | exact ih1 _ _ _ _ _ _ _ _ _ _ _ _ _ _ _ _ _
      | exact curtilagelaw02_awake.mono _
      | exact LeO.none _
      | refine LeO.ite ?_ ?_
      | refine LeO.bind ?_ (fun _ => ?_)
theorem curtilagelaw02_CapThrough.mono : ∀ a0 a1 a2 a3 a4 a5 a6 a7 a8 a9 a10 a11 a12 a13 a14 a15 a16 a17 a18 a19 k, LeO (curtilagelaw02_CapThrough.f k a0 a1 a2 a3 a4 a5 a6 a7 a8 a9 a10 a11 a12 a13 a14 a15 a16 a17 a18 a19) (curtilagelaw02_CapThrough.f (k + 1) a0 a1 a2 a3 a4 a5 a6 a7 a8 a9 a10 a11 a12 a13 a14 a15 a16 a17 a18 a19) := by
  intro a0 a1 a2 a3 a4 a5 a6 a7 a8 a9 a10 a11 a12 a13 a14 a15 a16 a17 a18 a19 k
  obtain ⟨ih0, ih1⟩ := curtilagelaw02_CapThrough.mono_l k
  unfold curtilagelaw02_CapThrough.f
  repeat' first
      | (with_reducible exact ih0 _ _ _ _ _ _ _ _ _ _ _ _ _ _ _ _ _ _ _ _ _ _)
      | (with_reducible exact ih1 _ _ _ _ _ _ _ _ _ _ _ _ _ _ _ _ _)
      | (with_reducible exact curtilagelaw02_awake.mono _)
      | (with_reducible exact LeO.refl _)
      | (with_reducible exact LeO.none _)
      | (with_reducible refine LeO.ite ?_ ?_)
      | (with_reducible refine LeO.bind ?_ (fun _ => ?_))
      | exact ih0 _ _ _ _ _ _ _ _ _ _ _ _ _ _ _ _ _ _ _ _ _ _
      | exact ih1 _ _ _ _ _ _ _ _ _ _ _ _ _ _ _ _ _
      | exact curtilagelaw02_awake.mono _
      | exact LeO.none _
      | refine LeO.ite ?_ ?_
      | refine LeO.bind ?_ (fun _ => ?_)
set_option maxHeartbeats 8000000 in
set_option maxRecDepth 100000 in
theorem curtilagelaw02_CapThrough.calls (k : Nat) (a0_0 : Int) (a0_1 : Int) (a0_2 : Int) (a0_3 : Int) (a0_4 : Int) (a0_5 : Bool) (a1_0 : Int) (a1_1 : Int) (a1_2 : Int) (a1_3 : Int) (a1_4 : Int) (a1_5 : Bool) (a2_0 : Int) (a2_1 : Int) (a2_2 : Int) (a2_3 : Int) (a2_4 : Int) (a2_5 : Bool) (a3 : Int) (a4 : Int) (r : Bool) (w : World) (h : curtilagelaw02_CapThrough.f k a0_0 a0_1 a0_2 a0_3 a0_4 a0_5 a1_0 a1_1 a1_2 a1_3 a1_4 a1_5 a2_0 a2_1 a2_2 a2_3 a2_4 a2_5 a3 a4 = some r) (htab : Lib.TabIs Tryd.prog w "internal/strconv.uint64pow10" .u64 Lib.pow10Tab) (hr0 : r = true) :
    Calls Tryd.prog 8 #[.agg #[.int .u64 a0_0, .int .u64 a0_1, .int .u64 a0_2, .int .i64 a0_3, .int .i64 a0_4, .bool a0_5], .agg #[.int .u64 a1_0, .int .u64 a1_1, .int .u64 a1_2, .int .i64 a1_3, .int .i64 a1_4, .bool a1_5], .agg #[.int .u64 a2_0, .int .u64 a2_1, .int .u64 a2_2, .int .i64 a2_3, .int .i64 a2_4, .bool a2_5], .int .u64 a3, .int .i64 a4] w fun e w' => e = .returned (.bool r) ∧ Below w.heap.size w w' := by
  have HT := Aside0.mk hr0
  clear hr0
  have HTAB := Aside0.mk (Lib.tabBelow_of_tabIs htab)
  clear htab
  have hu24 := Tryd.underlying24
  have HB := Aside0.mk (Below.refl w.heap.size w)
  have H : ((curtilagelaw02_awake.f k).bind fun t598 => ((curtilageref02_Right.f a0_0 a0_1 a0_2 a0_3 a0_4 a0_5).bind fun t599 => ((curtilageref02_Right.f a1_0 a1_1 a1_2 a1_3 a1_4 a1_5).bind fun t600 => ((curtilageref02_Right.f a2_0 a2_1 a2_2 a2_3 a2_4 a2_5).bind fun t601 => (if t599 = true then (if t600 = true then (if t601 = true then (if a4 < 0 then (curtilagelaw02_CapThrough.j0 k a3 a4 t598 true a0_0 a0_1 a0_2 a0_3 a0_4 a0_5 a1_0 a1_1 a1_2 a1_3 a1_4 a1_5 a2_0 a2_1 a2_2 a2_3 a2_4 a2_5) else (curtilagelaw02_CapThrough.j0 k a3 a4 t598 (decide (a4 > 255)) a0_0 a0_1 a0_2 a0_3 a0_4 a0_5 a1_0 a1_1 a1_2 a1_3 a1_4 a1_5 a2_0 a2_1 a2_2 a2_3 a2_4 a2_5)) else (curtilagelaw02_CapThrough.j0 k a3 a4 t598 true a0_0 a0_1 a0_2 a0_3 a0_4 a0_5 a1_0 a1_1 a1_2 a1_3 a1_4 a1_5 a2_0 a2_1 a2_2 a2_3 a2_4 a2_5)) else (curtilagelaw02_CapThrough.j0 k a3 a4 t598 true a0_0 a0_1 a0_2 a0_3 a0_4 a0_5 a1_0 a1_1 a1_2 a1_3 a1_4 a1_5 a2_0 a2_1 a2_2 a2_3 a2_4 a2_5)) else (curtilagelaw02_CapThrough.j0 k a3 a4 t598 true a0_0 a0_1 a0_2 a0_3 a0_4 a0_5 a1_0 a1_1 a1_2 a1_3 a1_4 a1_5 a2_0 a2_1 a2_2 a2_3 a2_4 a2_5)))))) = some r := h
  clear h
  replace H := Option.bind_eq_some_iff.mp H
  obtain ⟨t598, A60, H⟩ := H
  replace H : ((curtilageref02_Right.f a0_0 a0_1 a0_2 a0_3 a0_4 a0_5).bind fun t599 => ((curtilageref02_Right.f a1_0 a1_1 a1_2 a1_3 a1_4 a1_5).bind fun t600 => ((curtilageref02_Right.f a2_0 a2_1 a2_2 a2_3 a2_4 a2_5).bind fun t601 => (if t599 = true then (if t600 = true then (if t601 = true then (if a4 < 0 then (curtilagelaw02_CapThrough.j0 k a3 a4 t598 true a0_0 a0_1 a0_2 a0_3 a0_4 a0_5 a1_0 a1_1 a1_2 a1_3 a1_4 a1_5 a2_0 a2_1 a2_2 a2_3 a2_4 a2_5) else (curtilagelaw02_CapThrough.j0 k a3 a4 t598 (decide (a4 > 255)) a0_0 a0_1 a0_2 a0_3 a0_4 a0_5 a1_0 a1_1 a1_2 a1_3 a1_4 a1_5 a2_0 a2_1 a2_2 a2_3 a2_4 a2_5)) else (curtilagelaw02_CapThrough.j0 k a3 a4 t598 true a0_0 a0_1 a0_2 a0_3 a0_4 a0_5 a1_0 a1_1 a1_2 a1_3 a1_4 a1_5 a2_0 a2_1 a2_2 a2_3 a2_4 a2_5)) else (curtilagelaw02_CapThrough.j0 k a3 a4 t598 true a0_0 a0_1 a0_2 a0_3 a0_4 a0_5 a1_0 a1_1 a1_2 a1_3 a1_4 a1_5 a2_0 a2_1 a2_2 a2_3 a2_4 a2_5)) else (curtilagelaw02_CapThrough.j0 k a3 a4 t598 true a0_0 a0_1 a0_2 a0_3 a0_4 a0_5 a1_0 a1_1 a1_2 a1_3 a1_4 a1_5 a2_0 a2_1 a2_2 a2_3 a2_4 a2_5))))) = some r := H
  have A6 := Aside0.mk A60
  clear A60
  replace H := Option.bind_eq_some_iff.mp H
  obtain ⟨t599, A70, H⟩ := H
  replace H : ((curtilageref02_Right.f a1_0 a1_1 a1_2 a1_3 a1_4 a1_5).bind fun t600 => ((curtilageref02_Right.f a2_0 a2_1 a2_2 a2_3 a2_4 a2_5).bind fun t601 => (if t599 = true then (if t600 = true then (if t601 = true then (if a4 < 0 then (curtilagelaw02_CapThrough.j0 k a3 a4 t598 true a0_0 a0_1 a0_2 a0_3 a0_4 a0_5 a1_0 a1_1 a1_2 a1_3 a1_4 a1_5 a2_0 a2_1 a2_2 a2_3 a2_4 a2_5) else (curtilagelaw02_CapThrough.j0 k a3 a4 t598 (decide (a4 > 255)) a0_0 a0_1 a0_2 a0_3 a0_4 a0_5 a1_0 a1_1 a1_2 a1_3 a1_4 a1_5 a2_0 a2_1 a2_2 a2_3 a2_4 a2_5)) else (curtilagelaw02_CapThrough.j0 k a3 a4 t598 true a0_0 a0_1 a0_2 a0_3 a0_4 a0_5 a1_0 a1_1 a1_2 a1_3 a1_4 a1_5 a2_0 a2_1 a2_2 a2_3 a2_4 a2_5)) else (curtilagelaw02_CapThrough.j0 k a3 a4 t598 true a0_0 a0_1 a0_2 a0_3 a0_4 a0_5 a1_0 a1_1 a1_2 a1_3 a1_4 a1_5 a2_0 a2_1 a2_2 a2_3 a2_4 a2_5)) else (curtilagelaw02_CapThrough.j0 k a3 a4 t598 true a0_0 a0_1 a0_2 a0_3 a0_4 a0_5 a1_0 a1_1 a1_2 a1_3 a1_4 a1_5 a2_0 a2_1 a2_2 a2_3 a2_4 a2_5)))) = some r := H
  have A7 := Aside0.mk A70
  clear A70
  replace H := Option.bind_eq_some_iff.mp H
  obtain ⟨t600, A80, H⟩ := H
  replace H : ((curtilageref02_Right.f a2_0 a2_1 a2_2 a2_3 a2_4 a2_5).bind fun t601 => (if t599 = true then (if t600 = true then (if t601 = true then (if a4 < 0 then (curtilagelaw02_CapThrough.j0 k a3 a4 t598 true a0_0 a0_1 a0_2 a0_3 a0_4 a0_5 a1_0 a1_1 a1_2 a1_3 a1_4 a1_5 a2_0 a2_1 a2_2 a2_3 a2_4 a2_5) else (curtilagelaw02_CapThrough.j0 k a3 a4 t598 (decide (a4 > 255)) a0_0 a0_1 a0_2 a0_3 a0_4 a0_5 a1_0 a1_1 a1_2 a1_3 a1_4 a1_5 a2_0 a2_1 a2_2 a2_3 a2_4 a2_5)) else (curtilagelaw02_CapThrough.j0 k a3 a4 t598 true a0_0 a0_1 a0_2 a0_3 a0_4 a0_5 a1_0 a1_1 a1_2 a1_3 a1_4 a1_5 a2_0 a2_1 a2_2 a2_3 a2_4 a2_5)) else (curtilagelaw02_CapThrough.j0 k a3 a4 t598 true a0_0 a0_1 a0_2 a0_3 a0_4 a0_5 a1_0 a1_1 a1_2 a1_3 a1_4 a1_5 a2_0 a2_1 a2_2 a2_3 a2_4 a2_5)) else (curtilagelaw02_CapThrough.j0 k a3 a4 t598 true a0_0 a0_1 a0_2 a0_3 a0_4 a0_5 a1_0 a1_1 a1_2 a1_3 a1_4 a1_5 a2_0 a2_1 a2_2 a2_3 a2_4 a2_5))) = some r := H
  have A8 := Aside0.mk A80
  clear A80
  replace H := Option.bind_eq_some_iff.mp H
  obtain ⟨t601, A90, H⟩ := H
  replace H : (if t599 = true then (if t600 = true then (if t601 = true then (if a4 < 0 then (curtilagelaw02_CapThrough.j0 k a3 a4 t598 true a0_0 a0_1 a0_2 a0_3 a0_4 a0_5 a1_0 a1_1 a1_2 a1_3 a1_4 a1_5 a2_0 a2_1 a2_2 a2_3 a2_4 a2_5) else (curtilagelaw02_CapThrough.j0 k a3 a4 t598 (decide (a4 > 255)) a0_0 a0_1 a0_2 a0_3 a0_4 a0_5 a1_0 a1_1 a1_2 a1_3 a1_4 a1_5 a2_0 a2_1 a2_2 a2_3 a2_4 a2_5)) else (curtilagelaw02_CapThrough.j0 k a3 a4 t598 true a0_0 a0_1 a0_2 a0_3 a0_4 a0_5 a1_0 a1_1 a1_2 a1_3 a1_4 a1_5 a2_0 a2_1 a2_2 a2_3 a2_4 a2_5)) else (curtilagelaw02_CapThrough.j0 k a3 a4 t598 true a0_0 a0_1 a0_2 a0_3 a0_4 a0_5 a1_0 a1_1 a1_2 a1_3 a1_4 a1_5 a2_0 a2_1 a2_2 a2_3 a2_4 a2_5)) else (curtilagelaw02_CapThrough.j0 k a3 a4 t598 true a0_0 a0_1 a0_2 a0_3 a0_4 a0_5 a1_0 a1_1 a1_2 a1_3 a1_4 a1_5 a2_0 a2_1 a2_2 a2_3 a2_4 a2_5)) = some r := H
  have A9 := Aside0.mk A90
  clear A90
  have HC10 := Aside0.mk H
  clear H
  go_enter Tryd.func8, Tryd.ntmps8
  go_upto_region 5 with (first | ((with_reducible refine gate_dst (N := 5) rfl ?_); refine box_event ?hg (N := 5) ?hd (cs := #[.int .u64 a0_0, .int .u64 a0_1, .int .u64 a0_2, .int .i64 a0_3, .int .i64 a0_4, .bool a0_5]) (t := 24) ?hr ?_; (case hd => rfl); (case hg => rfl); (case hr => first | (go_simp; done) | (go_simp; rfl)); intro gb595 hg w11 hbox hb; have n0_ := Aside0.mk (below_step (by repeat (first | (with_reducible first | exact HB.out | apply below_alloc | apply pw_below_drewN | apply below_drew1) | exact HB.out)) hb); have n1_ := Aside0.mk (hbox); have n2_ := Aside0.mk ((by rw [hg]; exact (below_size (by repeat (first | (with_reducible first | exact HB.out | apply below_alloc | apply pw_below_drewN | apply below_drew1) | exact HB.out))) : w.heap.size ≤ gb595)); have n3_ := n2_; clear HB; have HB := n0_; have BK595 := n1_; have GW595 := n2_; have GE595 := n3_; clear n0_ n1_ n2_ n3_; clear hb hbox hg) | ((with_reducible refine gate_dst (N := 6) rfl ?_); refine box_event ?hg (N := 6) ?hd (cs := #[.int .u64 a1_0, .int .u64 a1_1, .int .u64 a1_2, .int .i64 a1_3, .int .i64 a1_4, .bool a1_5]) (t := 24) ?hr ?_; (case hd => rfl); (case hg => rfl); (case hr => first | (go_simp; done) | (go_simp; rfl)); intro gb596 hg w12 hbox hb; have n0_ := Aside0.mk (blk_below (g := gb595) (o := .cells #[.int .u64 a0_0, .int .u64 a0_1, .int .u64 a0_2, .int .i64 a0_3, .int .i64 a0_4, .bool a0_5] 24 (0, 0)) (by (with_reducible repeat (first | refine blk_drewN ?_ _ | refine blk_drew ?_ | refine blk_alloc ?_ _)); exact BK595.out) hb); have n1_ := Aside0.mk (below_step (by repeat (first | (with_reducible first | exact HB.out | apply below_alloc | apply pw_below_drewN | apply below_drew1 | refine below_set ?_ GE595.out) | exact HB.out)) hb); have n2_ := Aside0.mk (hbox); have n3_ := Aside0.mk ((by rw [hg]; exact (below_size (by repeat (first | (with_reducible first | exact HB.out | apply below_alloc | apply pw_below_drewN | apply below_drew1 | refine below_set ?_ GE595.out) | exact HB.out))) : w.heap.size ≤ gb596)); have n4_ := n3_; have n5_ := Aside0.mk ((by rw [hg]; exact Nat.ne_of_lt (blk_lt (g := gb595) (o := .cells #[.int .u64 a0_0, .int .u64 a0_1, .int .u64 a0_2, .int .i64 a0_3, .int .i64 a0_4, .bool a0_5] 24 (0, 0)) (by (with_reducible repeat (first | refine blk_drewN ?_ _ | refine blk_drew ?_ | refine blk_alloc ?_ _)); exact BK595.out)) : gb595 ≠ gb596)); have n6_ := Aside0.mk n5_.out.symm; clear BK595; clear HB; have BK595 := n0_; have HB := n1_; have BK596 := n2_; have GW596 := n3_; have GE596 := n4_; have NB595_596 := n5_; have NB596_595 := n6_; clear n0_ n1_ n2_ n3_ n4_ n5_ n6_; clear hb hbox hg) | ((with_reducible refine gate_dst (N := 7) rfl ?_); refine box_event ?hg (N := 7) ?hd (cs := #[.int .u64 a2_0, .int .u64 a2_1, .int .u64 a2_2, .int .i64 a2_3, .int .i64 a2_4, .bool a2_5]) (t := 24) ?hr ?_; (case hd => rfl); (case hg => rfl); (case hr => first | (go_simp; done) | (go_simp; rfl)); intro gb597 hg w13 hbox hb; have n0_ := Aside0.mk (blk_below (g := gb595) (o := .cells #[.int .u64 a0_0, .int .u64 a0_1, .int .u64 a0_2, .int .i64 a0_3, .int .i64 a0_4, .bool a0_5] 24 (0, 0)) (by (with_reducible repeat (first | refine blk_drewN ?_ _ | refine blk_drew ?_ | refine blk_alloc ?_ _)); exact BK595.out) hb); have n1_ := Aside0.mk (blk_below (g := gb596) (o := .cells #[.int .u64 a1_0, .int .u64 a1_1, .int .u64 a1_2, .int .i64 a1_3, .int .i64 a1_4, .bool a1_5] 24 (0, 0)) (by (with_reducible repeat (first | refine blk_drewN ?_ _ | refine blk_drew ?_ | refine blk_alloc ?_ _)); exact BK596.out) hb); have n2_ := Aside0.mk (below_step (by repeat (first | (with_reducible first | exact HB.out | apply below_alloc | apply pw_below_drewN | apply below_drew1 | refine below_set ?_ GE595.out | refine below_set ?_ GE596.out) | exact HB.out)) hb); have n3_ := Aside0.mk (hbox); have n4_ := Aside0.mk ((by rw [hg]; exact (below_size (by repeat (first | (with_reducible first | exact HB.out | apply below_alloc | apply pw_below_drewN | apply below_drew1 | refine below_set ?_ GE595.out | refine below_set ?_ GE596.out) | exact HB.out))) : w.heap.size ≤ gb597)); have n5_ := n4_; have n6_ := Aside0.mk ((by rw [hg]; exact Nat.ne_of_lt (blk_lt (g := gb595) (o := .cells #[.int .u64 a0_0, .int .u64 a0_1, .int .u64 a0_2, .int .i64 a0_3, .int .i64 a0_4, .bool a0_5] 24 (0, 0)) (by (with_reducible repeat (first | refine blk_drewN ?_ _ | refine blk_drew ?_ | refine blk_alloc ?_ _)); exact BK595.out)) : gb595 ≠ gb597)); have n7_ := Aside0.mk n6_.out.symm; have n8_ := Aside0.mk ((by rw [hg]; exact Nat.ne_of_lt (blk_lt (g := gb596) (o := .cells #[.int .u64 a1_0, .int .u64 a1_1, .int .u64 a1_2, .int .i64 a1_3, .int .i64 a1_4, .bool a1_5] 24 (0, 0)) (by (with_reducible repeat (first | refine blk_drewN ?_ _ | refine blk_drew ?_ | refine blk_alloc ?_ _)); exact BK596.out)) : gb596 ≠ gb597)); have n9_ := Aside0.mk n8_.out.symm; clear BK595; clear BK596; clear HB; have BK595 := n0_; have BK596 := n1_; have HB := n2_; have BK597 := n3_; have GW597 := n4_; have GE597 := n5_; have NB595_597 := n6_; have NB597_595 := n7_; have NB596_597 := n8_; have NB597_596 := n9_; clear n0_ n1_ n2_ n3_ n4_ n5_ n6_ n7_ n8_ n9_; clear hb hbox hg) | ((with_reducible refine gate_dst (N := 20) rfl ?_); (with_reducible refine gate_callee (f := 10) rfl ?_); refine goesL_ (some 20) rfl rfl Tryd.func10 (by kernel_rfl) rfl #[] rfl (by (try simp only [List.map_toArray, List.map_cons, List.map_nil]); first | done | rfl | (simp only [List.length_drop, List.length_take]; rfl)) ?_; (with_reducible refine (curtilagelaw02_awake.calls k  t598 _ A6.out (tab_on HTAB.out (by repeat (first | (with_reducible first | exact HB.out | apply below_alloc | apply pw_below_drewN | apply below_drew1 | refine below_set ?_ GE595.out | refine below_set ?_ GE596.out | refine below_set ?_ GE597.out) | exact HB.out)))).mono ?_); rintro e w14 ⟨rfl, hb⟩; refine ⟨_, rfl, ?_⟩; have n0_ := Aside0.mk (blk_below (g := gb595) (o := .cells #[.int .u64 a0_0, .int .u64 a0_1, .int .u64 a0_2, .int .i64 a0_3, .int .i64 a0_4, .bool a0_5] 24 (0, 0)) (by (with_reducible repeat (first | refine blk_drewN ?_ _ | refine blk_drew ?_ | refine blk_alloc ?_ _)); exact BK595.out) hb); have n1_ := Aside0.mk (blk_below (g := gb596) (o := .cells #[.int .u64 a1_0, .int .u64 a1_1, .int .u64 a1_2, .int .i64 a1_3, .int .i64 a1_4, .bool a1_5] 24 (0, 0)) (by (with_reducible repeat (first | refine blk_drewN ?_ _ | refine blk_drew ?_ | refine blk_alloc ?_ _)); exact BK596.out) hb); have n2_ := Aside0.mk (blk_below (g := gb597) (o := .cells #[.int .u64 a2_0, .int .u64 a2_1, .int .u64 a2_2, .int .i64 a2_3, .int .i64 a2_4, .bool a2_5] 24 (0, 0)) (by (with_reducible repeat (first | refine blk_drewN ?_ _ | refine blk_drew ?_ | refine blk_alloc ?_ _)); exact BK597.out) hb); have n3_ := Aside0.mk (below_step (by repeat (first | (with_reducible first | exact HB.out | apply below_alloc | apply pw_below_drewN | apply below_drew1 | refine below_set ?_ GE595.out | refine below_set ?_ GE596.out | refine below_set ?_ GE597.out) | exact HB.out)) hb); clear BK595; clear BK596; clear BK597; clear HB; have BK595 := n0_; have BK596 := n1_; have BK597 := n2_; have HB := n3_; clear n0_ n1_ n2_ n3_; (try clear hb); (try clear hb2); (try clear hk); (try clear hi); have hnb15 := NB595_596.out; have hnc15 := NB596_595.out; have hnb16 := NB595_597.out; have hnc16 := NB597_595.out; obtain ⟨hcz17_0, hcz17_1, hcz17_2, hcz17_3, hcz17_4, hcz17_5, hfz17_0, hfz17_1, hfz17_2, hfz17_3, hfz17_4, hfz17_5⟩ := cells6 BK595.out) | ((with_reducible refine gate_dst (N := 22) rfl ?_); (with_reducible refine gate_callee (f := 11) rfl ?_); refine goesL_ (some 22) rfl rfl Tryd.func11 (by kernel_rfl) rfl #[.agg #[.int .u64 a0_0, .int .u64 a0_1, .int .u64 a0_2, .int .i64 a0_3, .int .i64 a0_4, .bool a0_5]] rfl (by (try simp only [List.map_toArray, List.map_cons, List.map_nil]); first | done | rfl | (simp only [List.length_drop, List.length_take]; rfl)) ?_; (with_reducible refine (curtilageref02_Right.calls a0_0 a0_1 a0_2 a0_3 a0_4 a0_5 t599 _ A7.out).mono ?_); rintro e w18 ⟨rfl, hb⟩; refine ⟨_, rfl, ?_⟩; have n0_ := Aside0.mk (blk_below (g := gb595) (o := .cells #[.int .u64 a0_0, .int .u64 a0_1, .int .u64 a0_2, .int .i64 a0_3, .int .i64 a0_4, .bool a0_5] 24 (0, 0)) (by (with_reducible repeat (first | refine blk_drewN ?_ _ | refine blk_drew ?_ | refine blk_alloc ?_ _)); exact BK595.out) hb); have n1_ := Aside0.mk (blk_below (g := gb596) (o := .cells #[.int .u64 a1_0, .int .u64 a1_1, .int .u64 a1_2, .int .i64 a1_3, .int .i64 a1_4, .bool a1_5] 24 (0, 0)) (by (with_reducible repeat (first | refine blk_drewN ?_ _ | refine blk_drew ?_ | refine blk_alloc ?_ _)); exact BK596.out) hb); have n2_ := Aside0.mk (blk_below (g := gb597) (o := .cells #[.int .u64 a2_0, .int .u64 a2_1, .int .u64 a2_2, .int .i64 a2_3, .int .i64 a2_4, .bool a2_5] 24 (0, 0)) (by (with_reducible repeat (first | refine blk_drewN ?_ _ | refine blk_drew ?_ | refine blk_alloc ?_ _)); exact BK597.out) hb); have n3_ := Aside0.mk (below_step (by repeat (first | (with_reducible first | exact HB.out | apply below_alloc | apply pw_below_drewN | apply below_drew1 | refine below_set ?_ GE595.out | refine below_set ?_ GE596.out | refine below_set ?_ GE597.out) | exact HB.out)) hb); clear BK595; clear BK596; clear BK597; clear HB; have BK595 := n0_; have BK596 := n1_; have BK597 := n2_; have HB := n3_; clear n0_ n1_ n2_ n3_; (try clear hb); (try clear hb2); (try clear hk); (try clear hi); have hnb19 := NB596_597.out; have hnc19 := NB597_596.out; obtain ⟨hcz20_0, hcz20_1, hcz20_2, hcz20_3, hcz20_4, hcz20_5, hfz20_0, hfz20_1, hfz20_2, hfz20_3, hfz20_4, hfz20_5⟩ := cells6 BK596.out) | ((with_reducible refine gate_dst (N := 24) rfl ?_); (with_reducible refine gate_callee (f := 11) rfl ?_); refine goesL_ (some 24) rfl rfl Tryd.func11 (by kernel_rfl) rfl #[.agg #[.int .u64 a1_0, .int .u64 a1_1, .int .u64 a1_2, .int .i64 a1_3, .int .i64 a1_4, .bool a1_5]] rfl (by (try simp only [List.map_toArray, List.map_cons, List.map_nil]); first | done | rfl | (simp only [List.length_drop, List.length_take]; rfl)) ?_; (with_reducible refine (curtilageref02_Right.calls a1_0 a1_1 a1_2 a1_3 a1_4 a1_5 t600 _ A8.out).mono ?_); rintro e w21 ⟨rfl, hb⟩; refine ⟨_, rfl, ?_⟩; have n0_ := Aside0.mk (blk_below (g := gb595) (o := .cells #[.int .u64 a0_0, .int .u64 a0_1, .int .u64 a0_2, .int .i64 a0_3, .int .i64 a0_4, .bool a0_5] 24 (0, 0)) (by (with_reducible repeat (first | refine blk_drewN ?_ _ | refine blk_drew ?_ | refine blk_alloc ?_ _)); exact BK595.out) hb); have n1_ := Aside0.mk (blk_below (g := gb596) (o := .cells #[.int .u64 a1_0, .int .u64 a1_1, .int .u64 a1_2, .int .i64 a1_3, .int .i64 a1_4, .bool a1_5] 24 (0, 0)) (by (with_reducible repeat (first | refine blk_drewN ?_ _ | refine blk_drew ?_ | refine blk_alloc ?_ _)); exact BK596.out) hb); have n2_ := Aside0.mk (blk_below (g := gb597) (o := .cells #[.int .u64 a2_0, .int .u64 a2_1, .int .u64 a2_2, .int .i64 a2_3, .int .i64 a2_4, .bool a2_5] 24 (0, 0)) (by (with_reducible repeat (first | refine blk_drewN ?_ _ | refine blk_drew ?_ | refine blk_alloc ?_ _)); exact BK597.out) hb); have n3_ := Aside0.mk (below_step (by repeat (first | (with_reducible first | exact HB.out | apply below_alloc | apply pw_below_drewN | apply below_drew1 | refine below_set ?_ GE595.out | refine below_set ?_ GE596.out | refine below_set ?_ GE597.out) | exact HB.out)) hb); clear BK595; clear BK596; clear BK597; clear HB; have BK595 := n0_; have BK596 := n1_; have BK597 := n2_; have HB := n3_; clear n0_ n1_ n2_ n3_; (try clear hb); (try clear hb2); (try clear hk); (try clear hi); obtain ⟨hcz22_0, hcz22_1, hcz22_2, hcz22_3, hcz22_4, hcz22_5, hfz22_0, hfz22_1, hfz22_2, hfz22_3, hfz22_4, hfz22_5⟩ := cells6 BK597.out) | ((with_reducible refine gate_dst (N := 26) rfl ?_); (with_reducible refine gate_callee (f := 11) rfl ?_); refine goesL_ (some 26) rfl rfl Tryd.func11 (by kernel_rfl) rfl #[.agg #[.int .u64 a2_0, .int .u64 a2_1, .int .u64 a2_2, .int .i64 a2_3, .int .i64 a2_4, .bool a2_5]] rfl (by (try simp only [List.map_toArray, List.map_cons, List.map_nil]); first | done | rfl | (simp only [List.length_drop, List.length_take]; rfl)) ?_; (with_reducible refine (curtilageref02_Right.calls a2_0 a2_1 a2_2 a2_3 a2_4 a2_5 t601 _ A9.out).mono ?_); rintro e w23 ⟨rfl, hb⟩; refine ⟨_, rfl, ?_⟩; have n0_ := Aside0.mk (blk_below (g := gb595) (o := .cells #[.int .u64 a0_0, .int .u64 a0_1, .int .u64 a0_2, .int .i64 a0_3, .int .i64 a0_4, .bool a0_5] 24 (0, 0)) (by (with_reducible repeat (first | refine blk_drewN ?_ _ | refine blk_drew ?_ | refine blk_alloc ?_ _)); exact BK595.out) hb); have n1_ := Aside0.mk (blk_below (g := gb596) (o := .cells #[.int .u64 a1_0, .int .u64 a1_1, .int .u64 a1_2, .int .i64 a1_3, .int .i64 a1_4, .bool a1_5] 24 (0, 0)) (by (with_reducible repeat (first | refine blk_drewN ?_ _ | refine blk_drew ?_ | refine blk_alloc ?_ _)); exact BK596.out) hb); have n2_ := Aside0.mk (blk_below (g := gb597) (o := .cells #[.int .u64 a2_0, .int .u64 a2_1, .int .u64 a2_2, .int .i64 a2_3, .int .i64 a2_4, .bool a2_5] 24 (0, 0)) (by (with_reducible repeat (first | refine blk_drewN ?_ _ | refine blk_drew ?_ | refine blk_alloc ?_ _)); exact BK597.out) hb); have n3_ := Aside0.mk (below_step (by repeat (first | (with_reducible first | exact HB.out | apply below_alloc | apply pw_below_drewN | apply below_drew1 | refine below_set ?_ GE595.out | refine below_set ?_ GE596.out | refine below_set ?_ GE597.out) | exact HB.out)) hb); clear BK595; clear BK596; clear BK597; clear HB; have BK595 := n0_; have BK596 := n1_; have BK597 := n2_; have HB := n3_; clear n0_ n1_ n2_ n3_; (try clear hb); (try clear hb2); (try clear hk); (try clear hi)))
  (try simp only [Act.put, List.setIfInBounds_toArray, List.set_cons_zero, List.set_cons_succ])
  go_cut [44] (fun v44 wc => ∃ (kq : Nat) (x44_9 : Bool), v44 = .bool x44_9 ∧ Aside0 (curtilagelaw02_CapThrough.j0 kq a3 a4 t598 x44_9 a0_0 a0_1 a0_2 a0_3 a0_4 a0_5 a1_0 a1_1 a1_2 a1_3 a1_4 a1_5 a2_0 a2_1 a2_2 a2_3 a2_4 a2_5 = some r) ∧ Aside0 (kq ≤ k) ∧ Aside0 (wc.heap[gb595]? = some (.cells #[.int .u64 a0_0, .int .u64 a0_1, .int .u64 a0_2, .int .i64 a0_3, .int .i64 a0_4, .bool a0_5] 24 (0, 0))) ∧ Aside0 (wc.heap[gb596]? = some (.cells #[.int .u64 a1_0, .int .u64 a1_1, .int .u64 a1_2, .int .i64 a1_3, .int .i64 a1_4, .bool a1_5] 24 (0, 0))) ∧ Aside0 (wc.heap[gb597]? = some (.cells #[.int .u64 a2_0, .int .u64 a2_1, .int .u64 a2_2, .int .i64 a2_3, .int .i64 a2_4, .bool a2_5] 24 (0, 0))) ∧ Aside0 (Below w.heap.size w wc))
  case first =>
    have H := HC10.out
    clear HC10
    by_cases c24 : t599 = true
    · subst c24
      have H1 : (if t600 = true then (if t601 = true then (if a4 < 0 then (curtilagelaw02_CapThrough.j0 k a3 a4 t598 true a0_0 a0_1 a0_2 a0_3 a0_4 a0_5 a1_0 a1_1 a1_2 a1_3 a1_4 a1_5 a2_0 a2_1 a2_2 a2_3 a2_4 a2_5) else (curtilagelaw02_CapThrough.j0 k a3 a4 t598 (decide (a4 > 255)) a0_0 a0_1 a0_2 a0_3 a0_4 a0_5 a1_0 a1_1 a1_2 a1_3 a1_4 a1_5 a2_0 a2_1 a2_2 a2_3 a2_4 a2_5)) else (curtilagelaw02_CapThrough.j0 k a3 a4 t598 true a0_0 a0_1 a0_2 a0_3 a0_4 a0_5 a1_0 a1_1 a1_2 a1_3 a1_4 a1_5 a2_0 a2_1 a2_2 a2_3 a2_4 a2_5)) else (curtilagelaw02_CapThrough.j0 k a3 a4 t598 true a0_0 a0_1 a0_2 a0_3 a0_4 a0_5 a1_0 a1_1 a1_2 a1_3 a1_4 a1_5 a2_0 a2_1 a2_2 a2_3 a2_4 a2_5)) = some r := by rw [if_pos rfl] at H; exact H
      clear H
      have H := H1
      clear H1
      by_cases c25 : t600 = true
      · subst c25
        have H1 : (if t601 = true then (if a4 < 0 then (curtilagelaw02_CapThrough.j0 k a3 a4 t598 true a0_0 a0_1 a0_2 a0_3 a0_4 a0_5 a1_0 a1_1 a1_2 a1_3 a1_4 a1_5 a2_0 a2_1 a2_2 a2_3 a2_4 a2_5) else (curtilagelaw02_CapThrough.j0 k a3 a4 t598 (decide (a4 > 255)) a0_0 a0_1 a0_2 a0_3 a0_4 a0_5 a1_0 a1_1 a1_2 a1_3 a1_4 a1_5 a2_0 a2_1 a2_2 a2_3 a2_4 a2_5)) else (curtilagelaw02_CapThrough.j0 k a3 a4 t598 true a0_0 a0_1 a0_2 a0_3 a0_4 a0_5 a1_0 a1_1 a1_2 a1_3 a1_4 a1_5 a2_0 a2_1 a2_2 a2_3 a2_4 a2_5)) = some r := by rw [if_pos rfl] at H; exact H
        clear H
        have H := H1
        clear H1
        by_cases c26 : t601 = true
        · subst c26
          have H1 : (if a4 < 0 then (curtilagelaw02_CapThrough.j0 k a3 a4 t598 true a0_0 a0_1 a0_2 a0_3 a0_4 a0_5 a1_0 a1_1 a1_2 a1_3 a1_4 a1_5 a2_0 a2_1 a2_2 a2_3 a2_4 a2_5) else (curtilagelaw02_CapThrough.j0 k a3 a4 t598 (decide (a4 > 255)) a0_0 a0_1 a0_2 a0_3 a0_4 a0_5 a1_0 a1_1 a1_2 a1_3 a1_4 a1_5 a2_0 a2_1 a2_2 a2_3 a2_4 a2_5)) = some r := by rw [if_pos rfl] at H; exact H
          clear H
          have H := H1
          clear H1
          by_cases c27 : a4 < 0
          · rw [if_pos c27] at H
            have c27b0 : decide (a4 < 0) = true := decide_eq_true c27
            clear c27
            (first | rw [c27b0] | (simp only [i64_w, i32_w]; rw [c27b0]) | skip)
            have H' := Aside0.mk H
            clear H
            go_wp2
            go_meet
            case rel => exact ⟨_, (true), (by first | rfl | (simp; done) | (simp [*]; done)), H', ⟨by first | omega | exact Nat.le_refl _⟩, ⟨by (with_reducible repeat (first | refine blk_drewN ?_ _ | refine blk_drew ?_ | refine blk_alloc ?_ _)); exact BK595.out⟩, ⟨by (with_reducible repeat (first | refine blk_drewN ?_ _ | refine blk_drew ?_ | refine blk_alloc ?_ _)); exact BK596.out⟩, ⟨by (with_reducible repeat (first | refine blk_drewN ?_ _ | refine blk_drew ?_ | refine blk_alloc ?_ _)); exact BK597.out⟩, ⟨by repeat (first | (with_reducible first | exact HB.out | apply below_alloc | apply pw_below_drewN | apply below_drew1 | refine below_set ?_ GE595.out | refine below_set ?_ GE596.out | refine below_set ?_ GE597.out) | exact HB.out)⟩⟩
          · rw [if_neg c27] at H
            have c27b0 : decide (a4 < 0) = false := decide_eq_false c27
            clear c27
            (first | rw [c27b0] | (simp only [i64_w, i32_w]; rw [c27b0]) | skip)
            have H' := Aside0.mk H
            clear H
            go_wp2
            go_meet
            case rel => exact ⟨_, (decide (a4 > 255)), (by first | rfl | (simp; done) | (simp [*]; done)), H', ⟨by first | omega | exact Nat.le_refl _⟩, ⟨by (with_reducible repeat (first | refine blk_drewN ?_ _ | refine blk_drew ?_ | refine blk_alloc ?_ _)); exact BK595.out⟩, ⟨by (with_reducible repeat (first | refine blk_drewN ?_ _ | refine blk_drew ?_ | refine blk_alloc ?_ _)); exact BK596.out⟩, ⟨by (with_reducible repeat (first | refine blk_drewN ?_ _ | refine blk_drew ?_ | refine blk_alloc ?_ _)); exact BK597.out⟩, ⟨by repeat (first | (with_reducible first | exact HB.out | apply below_alloc | apply pw_below_drewN | apply below_drew1 | refine below_set ?_ GE595.out | refine below_set ?_ GE596.out | refine below_set ?_ GE597.out) | exact HB.out)⟩⟩
        · replace c26 := Bool.eq_false_iff.mpr c26
          subst c26
          have H1 : (curtilagelaw02_CapThrough.j0 k a3 a4 t598 true a0_0 a0_1 a0_2 a0_3 a0_4 a0_5 a1_0 a1_1 a1_2 a1_3 a1_4 a1_5 a2_0 a2_1 a2_2 a2_3 a2_4 a2_5) = some r := by rw [if_neg (show ¬ (false = true) by decide)] at H; exact H
          clear H
          have H := H1
          clear H1
          have H' := Aside0.mk H
          clear H
          go_wp2
          go_meet
          case rel => exact ⟨_, (true), (by first | rfl | (simp; done) | (simp [*]; done)), H', ⟨by first | omega | exact Nat.le_refl _⟩, ⟨by (with_reducible repeat (first | refine blk_drewN ?_ _ | refine blk_drew ?_ | refine blk_alloc ?_ _)); exact BK595.out⟩, ⟨by (with_reducible repeat (first | refine blk_drewN ?_ _ | refine blk_drew ?_ | refine blk_alloc ?_ _)); exact BK596.out⟩, ⟨by (with_reducible repeat (first | refine blk_drewN ?_ _ | refine blk_drew ?_ | refine blk_alloc ?_ _)); exact BK597.out⟩, ⟨by repeat (first | (with_reducible first | exact HB.out | apply below_alloc | apply pw_below_drewN | apply below_drew1 | refine below_set ?_ GE595.out | refine below_set ?_ GE596.out | refine below_set ?_ GE597.out) | exact HB.out)⟩⟩
      · replace c25 := Bool.eq_false_iff.mpr c25
        subst c25
        have H1 : (curtilagelaw02_CapThrough.j0 k a3 a4 t598 true a0_0 a0_1 a0_2 a0_3 a0_4 a0_5 a1_0 a1_1 a1_2 a1_3 a1_4 a1_5 a2_0 a2_1 a2_2 a2_3 a2_4 a2_5) = some r := by rw [if_neg (show ¬ (false = true) by decide)] at H; exact H
        clear H
        have H := H1
        clear H1
        have H' := Aside0.mk H
        clear H
        go_wp2
        go_meet
        case rel => exact ⟨_, (true), (by first | rfl | (simp; done) | (simp [*]; done)), H', ⟨by first | omega | exact Nat.le_refl _⟩, ⟨by (with_reducible repeat (first | refine blk_drewN ?_ _ | refine blk_drew ?_ | refine blk_alloc ?_ _)); exact BK595.out⟩, ⟨by (with_reducible repeat (first | refine blk_drewN ?_ _ | refine blk_drew ?_ | refine blk_alloc ?_ _)); exact BK596.out⟩, ⟨by (with_reducible repeat (first | refine blk_drewN ?_ _ | refine blk_drew ?_ | refine blk_alloc ?_ _)); exact BK597.out⟩, ⟨by repeat (first | (with_reducible first | exact HB.out | apply below_alloc | apply pw_below_drewN | apply below_drew1 | refine below_set ?_ GE595.out | refine below_set ?_ GE596.out | refine below_set ?_ GE597.out) | exact HB.out)⟩⟩
    · replace c24 := Bool.eq_false_iff.mpr c24
      subst c24
      have H1 : (curtilagelaw02_CapThrough.j0 k a3 a4 t598 true a0_0 a0_1 a0_2 a0_3 a0_4 a0_5 a1_0 a1_1 a1_2 a1_3 a1_4 a1_5 a2_0 a2_1 a2_2 a2_3 a2_4 a2_5) = some r := by rw [if_neg (show ¬ (false = true) by decide)] at H; exact H
      clear H
      have H := H1
      clear H1
      have H' := Aside0.mk H
      clear H
      go_wp2
      go_meet
      case rel => exact ⟨_, (true), (by first | rfl | (simp; done) | (simp [*]; done)), H', ⟨by first | omega | exact Nat.le_refl _⟩, ⟨by (with_reducible repeat (first | refine blk_drewN ?_ _ | refine blk_drew ?_ | refine blk_alloc ?_ _)); exact BK595.out⟩, ⟨by (with_reducible repeat (first | refine blk_drewN ?_ _ | refine blk_drew ?_ | refine blk_alloc ?_ _)); exact BK596.out⟩, ⟨by (with_reducible repeat (first | refine blk_drewN ?_ _ | refine blk_drew ?_ | refine blk_alloc ?_ _)); exact BK597.out⟩, ⟨by repeat (first | (with_reducible first | exact HB.out | apply below_alloc | apply pw_below_drewN | apply below_drew1 | refine below_set ?_ GE595.out | refine below_set ?_ GE596.out | refine below_set ?_ GE597.out) | exact HB.out)⟩⟩
  case rest =>
    clear HC10
    try clear c1
    try clear c2
    try clear p2
    try clear c8
    try clear c10
    try clear c11
    try clear c15
    try clear c16
    try clear c19
    try clear c24
    try clear c25
    try clear c26
    try clear c27
    try clear c27b0
    try clear hcz17_0
    try clear hcz17_1
    try clear hcz17_2
    try clear hcz17_3
    try clear hcz17_4
    try clear hcz17_5
    try clear hcz20_0
    try clear hcz20_1
    try clear hcz20_2
    try clear hcz20_3
    try clear hcz20_4
    try clear hcz20_5
    try clear hcz22_0
    try clear hcz22_1
    try clear hcz22_2
    try clear hcz22_3
    try clear hcz22_4
    try clear hcz22_5
    try clear hfz17_0
    try clear hfz17_1
    try clear hfz17_2
    try clear hfz17_3
    try clear hfz17_4
    try clear hfz17_5
    try clear hfz20_0
    try clear hfz20_1
    try clear hfz20_2
    try clear hfz20_3
    try clear hfz20_4
    try clear hfz20_5
    try clear hfz22_0
    try clear hfz22_1
    try clear hfz22_2
    try clear hfz22_3
    try clear hfz22_4
    try clear hfz22_5
    obtain ⟨kq, x44_9, rfl, HA, HJ9, BK595, BK596, BK597, HB⟩ := hcut
    cases kq with
    | zero => exact absurd HA.out (by simp [curtilagelaw02_CapThrough.j0])
    | succ kj9 =>
      have H := HA.out
      clear HA
      simp only [curtilagelaw02_CapThrough.j0] at H
      by_cases c28 : x44_9 = true
      · subst c28
        have H1 : (some t598) = some r := by rw [if_pos rfl] at H; exact H
        clear H
        have H := H1
        clear H1
        obtain rfl := Option.some.inj H
        go_wp2
        go_ret
        exact ⟨by first | rfl | (simp [errW_none, errW_some] <;> rfl) | (simp [*, errW_none, errW_some] <;> rfl), by repeat (first | (with_reducible first | exact HB.out | apply below_alloc | apply pw_below_drewN | apply below_drew1 | refine below_set ?_ GE595.out | refine below_set ?_ GE596.out | refine below_set ?_ GE597.out) | exact HB.out)⟩
      · replace c28 := Bool.eq_false_iff.mpr c28
        subst c28
        have H1 : ((cap_Within.f a0_0 a0_1 a0_2 a0_3 a0_4 a0_5 a1_0 a1_1 a1_2 a1_3 a1_4 a1_5).bind fun t602 => ((cap_Within.f a1_0 a1_1 a1_2 a1_3 a1_4 a1_5 a2_0 a2_1 a2_2 a2_3 a2_4 a2_5).bind fun t603 => ((cap_Within.f a0_0 a0_1 a0_2 a0_3 a0_4 a0_5 a2_0 a2_1 a2_2 a2_3 a2_4 a2_5).bind fun t604 => (if t602 = true then (if t603 = true then (if t604 = true then (curtilagelaw02_CapThrough.j1 kj9 a3 a4 t598 t602 false a0_0 a0_1 a0_2 a0_3 a0_4 a0_5 a1_0 a1_1 a1_2 a1_3 a1_4 a1_5) else (if a1_0 < a1_1 then (curtilagelaw02_CapThrough.j1 kj9 a3 a4 t598 t602 true a0_0 a0_1 a0_2 a0_3 a0_4 a0_5 a1_0 a1_1 a1_2 a1_3 a1_4 a1_5) else (curtilagelaw02_CapThrough.j1 kj9 a3 a4 t598 t602 (decide (a0_0 ≥ a0_1)) a0_0 a0_1 a0_2 a0_3 a0_4 a0_5 a1_0 a1_1 a1_2 a1_3 a1_4 a1_5))) else (curtilagelaw02_CapThrough.j1 kj9 a3 a4 t598 t602 false a0_0 a0_1 a0_2 a0_3 a0_4 a0_5 a1_0 a1_1 a1_2 a1_3 a1_4 a1_5)) else (curtilagelaw02_CapThrough.j1 kj9 a3 a4 t598 t602 false a0_0 a0_1 a0_2 a0_3 a0_4 a0_5 a1_0 a1_1 a1_2 a1_3 a1_4 a1_5))))) = some r := by rw [if_neg (show ¬ (false = true) by decide)] at H; exact H
        clear H
        have H := H1
        clear H1
        replace H := Option.bind_eq_some_iff.mp H
        obtain ⟨t602, A290, H⟩ := H
        replace H : ((cap_Within.f a1_0 a1_1 a1_2 a1_3 a1_4 a1_5 a2_0 a2_1 a2_2 a2_3 a2_4 a2_5).bind fun t603 => ((cap_Within.f a0_0 a0_1 a0_2 a0_3 a0_4 a0_5 a2_0 a2_1 a2_2 a2_3 a2_4 a2_5).bind fun t604 => (if t602 = true then (if t603 = true then (if t604 = true then (curtilagelaw02_CapThrough.j1 kj9 a3 a4 t598 t602 false a0_0 a0_1 a0_2 a0_3 a0_4 a0_5 a1_0 a1_1 a1_2 a1_3 a1_4 a1_5) else (if a1_0 < a1_1 then (curtilagelaw02_CapThrough.j1 kj9 a3 a4 t598 t602 true a0_0 a0_1 a0_2 a0_3 a0_4 a0_5 a1_0 a1_1 a1_2 a1_3 a1_4 a1_5) else (curtilagelaw02_CapThrough.j1 kj9 a3 a4 t598 t602 (decide (a0_0 ≥ a0_1)) a0_0 a0_1 a0_2 a0_3 a0_4 a0_5 a1_0 a1_1 a1_2 a1_3 a1_4 a1_5))) else (curtilagelaw02_CapThrough.j1 kj9 a3 a4 t598 t602 false a0_0 a0_1 a0_2 a0_3 a0_4 a0_5 a1_0 a1_1 a1_2 a1_3 a1_4 a1_5)) else (curtilagelaw02_CapThrough.j1 kj9 a3 a4 t598 t602 false a0_0 a0_1 a0_2 a0_3 a0_4 a0_5 a1_0 a1_1 a1_2 a1_3 a1_4 a1_5)))) = some r := H
        have A29 := Aside0.mk A290
        clear A290
        replace H := Option.bind_eq_some_iff.mp H
        obtain ⟨t603, A300, H⟩ := H
        replace H : ((cap_Within.f a0_0 a0_1 a0_2 a0_3 a0_4 a0_5 a2_0 a2_1 a2_2 a2_3 a2_4 a2_5).bind fun t604 => (if t602 = true then (if t603 = true then (if t604 = true then (curtilagelaw02_CapThrough.j1 kj9 a3 a4 t598 t602 false a0_0 a0_1 a0_2 a0_3 a0_4 a0_5 a1_0 a1_1 a1_2 a1_3 a1_4 a1_5) else (if a1_0 < a1_1 then (curtilagelaw02_CapThrough.j1 kj9 a3 a4 t598 t602 true a0_0 a0_1 a0_2 a0_3 a0_4 a0_5 a1_0 a1_1 a1_2 a1_3 a1_4 a1_5) else (curtilagelaw02_CapThrough.j1 kj9 a3 a4 t598 t602 (decide (a0_0 ≥ a0_1)) a0_0 a0_1 a0_2 a0_3 a0_4 a0_5 a1_0 a1_1 a1_2 a1_3 a1_4 a1_5))) else (curtilagelaw02_CapThrough.j1 kj9 a3 a4 t598 t602 false a0_0 a0_1 a0_2 a0_3 a0_4 a0_5 a1_0 a1_1 a1_2 a1_3 a1_4 a1_5)) else (curtilagelaw02_CapThrough.j1 kj9 a3 a4 t598 t602 false a0_0 a0_1 a0_2 a0_3 a0_4 a0_5 a1_0 a1_1 a1_2 a1_3 a1_4 a1_5))) = some r := H
        have A30 := Aside0.mk A300
        clear A300
        replace H := Option.bind_eq_some_iff.mp H
        obtain ⟨t604, A310, H⟩ := H
        replace H : (if t602 = true then (if t603 = true then (if t604 = true then (curtilagelaw02_CapThrough.j1 kj9 a3 a4 t598 t602 false a0_0 a0_1 a0_2 a0_3 a0_4 a0_5 a1_0 a1_1 a1_2 a1_3 a1_4 a1_5) else (if a1_0 < a1_1 then (curtilagelaw02_CapThrough.j1 kj9 a3 a4 t598 t602 true a0_0 a0_1 a0_2 a0_3 a0_4 a0_5 a1_0 a1_1 a1_2 a1_3 a1_4 a1_5) else (curtilagelaw02_CapThrough.j1 kj9 a3 a4 t598 t602 (decide (a0_0 ≥ a0_1)) a0_0 a0_1 a0_2 a0_3 a0_4 a0_5 a1_0 a1_1 a1_2 a1_3 a1_4 a1_5))) else (curtilagelaw02_CapThrough.j1 kj9 a3 a4 t598 t602 false a0_0 a0_1 a0_2 a0_3 a0_4 a0_5 a1_0 a1_1 a1_2 a1_3 a1_4 a1_5)) else (curtilagelaw02_CapThrough.j1 kj9 a3 a4 t598 t602 false a0_0 a0_1 a0_2 a0_3 a0_4 a0_5 a1_0 a1_1 a1_2 a1_3 a1_4 a1_5)) = some r := H
        have A31 := Aside0.mk A310
        clear A310
        have HC32 := Aside0.mk H
        clear H
        have hnb33 := NB595_596.out
        have hnc33 := NB596_595.out
        have hnb34 := NB595_597.out
        have hnc34 := NB597_595.out
        have hcz35_0 : wc.cell? ⟨gb595, 0, none⟩ = some (.int .u64 a0_0) := (blk_cell BK595.out 0).trans rfl
        have hcz35_1 : wc.cell? ⟨gb595, 1, none⟩ = some (.int .u64 a0_1) := (blk_cell BK595.out 1).trans rfl
        have hcz35_2 : wc.cell? ⟨gb595, 2, none⟩ = some (.int .u64 a0_2) := (blk_cell BK595.out 2).trans rfl
        have hcz35_3 : wc.cell? ⟨gb595, 3, none⟩ = some (.int .i64 a0_3) := (blk_cell BK595.out 3).trans rfl
        have hcz35_4 : wc.cell? ⟨gb595, 4, none⟩ = some (.int .i64 a0_4) := (blk_cell BK595.out 4).trans rfl
        have hcz35_5 : wc.cell? ⟨gb595, 5, none⟩ = some (.bool a0_5) := (blk_cell BK595.out 5).trans rfl
        have hfz35_0 := blk_frozen BK595.out 0
        have hfz35_1 := blk_frozen BK595.out 1
        have hfz35_2 := blk_frozen BK595.out 2
        have hfz35_3 := blk_frozen BK595.out 3
        have hfz35_4 := blk_frozen BK595.out 4
        have hfz35_5 := blk_frozen BK595.out 5
        have hnb36 := NB596_597.out
        have hnc36 := NB597_596.out
        have hcz37_0 : wc.cell? ⟨gb596, 0, none⟩ = some (.int .u64 a1_0) := (blk_cell BK596.out 0).trans rfl
        have hcz37_1 : wc.cell? ⟨gb596, 1, none⟩ = some (.int .u64 a1_1) := (blk_cell BK596.out 1).trans rfl
        have hcz37_2 : wc.cell? ⟨gb596, 2, none⟩ = some (.int .u64 a1_2) := (blk_cell BK596.out 2).trans rfl
        have hcz37_3 : wc.cell? ⟨gb596, 3, none⟩ = some (.int .i64 a1_3) := (blk_cell BK596.out 3).trans rfl
        have hcz37_4 : wc.cell? ⟨gb596, 4, none⟩ = some (.int .i64 a1_4) := (blk_cell BK596.out 4).trans rfl
        have hcz37_5 : wc.cell? ⟨gb596, 5, none⟩ = some (.bool a1_5) := (blk_cell BK596.out 5).trans rfl
        have hfz37_0 := blk_frozen BK596.out 0
        have hfz37_1 := blk_frozen BK596.out 1
        have hfz37_2 := blk_frozen BK596.out 2
        have hfz37_3 := blk_frozen BK596.out 3
        have hfz37_4 := blk_frozen BK596.out 4
        have hfz37_5 := blk_frozen BK596.out 5
        go_upto_region 10 with (first | ((with_reducible refine gate_dst (N := 48) rfl ?_); (with_reducible refine gate_callee (f := 31) rfl ?_); refine goesL_ (some 48) rfl rfl Tryd.func31 (by kernel_rfl) rfl #[.agg #[.int .u64 a0_0, .int .u64 a0_1, .int .u64 a0_2, .int .i64 a0_3, .int .i64 a0_4, .bool a0_5], .agg #[.int .u64 a1_0, .int .u64 a1_1, .int .u64 a1_2, .int .i64 a1_3, .int .i64 a1_4, .bool a1_5]] rfl (by (try simp only [List.map_toArray, List.map_cons, List.map_nil]); first | done | rfl | (simp only [List.length_drop, List.length_take]; rfl)) ?_; (with_reducible refine (cap_Within.calls a0_0 a0_1 a0_2 a0_3 a0_4 a0_5 a1_0 a1_1 a1_2 a1_3 a1_4 a1_5 t602 _ A29.out).mono ?_); rintro e w38 ⟨rfl, hb⟩; refine ⟨_, rfl, ?_⟩; have n0_ := Aside0.mk (blk_below (g := gb595) (o := .cells #[.int .u64 a0_0, .int .u64 a0_1, .int .u64 a0_2, .int .i64 a0_3, .int .i64 a0_4, .bool a0_5] 24 (0, 0)) (by (with_reducible repeat (first | refine blk_drewN ?_ _ | refine blk_drew ?_ | refine blk_alloc ?_ _)); exact BK595.out) hb); have n1_ := Aside0.mk (blk_below (g := gb596) (o := .cells #[.int .u64 a1_0, .int .u64 a1_1, .int .u64 a1_2, .int .i64 a1_3, .int .i64 a1_4, .bool a1_5] 24 (0, 0)) (by (with_reducible repeat (first | refine blk_drewN ?_ _ | refine blk_drew ?_ | refine blk_alloc ?_ _)); exact BK596.out) hb); have n2_ := Aside0.mk (blk_below (g := gb597) (o := .cells #[.int .u64 a2_0, .int .u64 a2_1, .int .u64 a2_2, .int .i64 a2_3, .int .i64 a2_4, .bool a2_5] 24 (0, 0)) (by (with_reducible repeat (first | refine blk_drewN ?_ _ | refine blk_drew ?_ | refine blk_alloc ?_ _)); exact BK597.out) hb); have n3_ := Aside0.mk (below_step (by repeat (first | (with_reducible first | exact HB.out | apply below_alloc | apply pw_below_drewN | apply below_drew1 | refine below_set ?_ GE595.out | refine below_set ?_ GE596.out | refine below_set ?_ GE597.out) | exact HB.out)) hb); clear BK595; clear BK596; clear BK597; clear HB; have BK595 := n0_; have BK596 := n1_; have BK597 := n2_; have HB := n3_; clear n0_ n1_ n2_ n3_; (try clear hb); (try clear hb2); (try clear hk); (try clear hi); obtain ⟨hcz39_0, hcz39_1, hcz39_2, hcz39_3, hcz39_4, hcz39_5, hfz39_0, hfz39_1, hfz39_2, hfz39_3, hfz39_4, hfz39_5⟩ := cells6 BK596.out; obtain ⟨hcz40_0, hcz40_1, hcz40_2, hcz40_3, hcz40_4, hcz40_5, hfz40_0, hfz40_1, hfz40_2, hfz40_3, hfz40_4, hfz40_5⟩ := cells6 BK597.out) | ((with_reducible refine gate_dst (N := 51) rfl ?_); (with_reducible refine gate_callee (f := 31) rfl ?_); refine goesL_ (some 51) rfl rfl Tryd.func31 (by kernel_rfl) rfl #[.agg #[.int .u64 a1_0, .int .u64 a1_1, .int .u64 a1_2, .int .i64 a1_3, .int .i64 a1_4, .bool a1_5], .agg #[.int .u64 a2_0, .int .u64 a2_1, .int .u64 a2_2, .int .i64 a2_3, .int .i64 a2_4, .bool a2_5]] rfl (by (try simp only [List.map_toArray, List.map_cons, List.map_nil]); first | done | rfl | (simp only [List.length_drop, List.length_take]; rfl)) ?_; (with_reducible refine (cap_Within.calls a1_0 a1_1 a1_2 a1_3 a1_4 a1_5 a2_0 a2_1 a2_2 a2_3 a2_4 a2_5 t603 _ A30.out).mono ?_); rintro e w41 ⟨rfl, hb⟩; refine ⟨_, rfl, ?_⟩; have n0_ := Aside0.mk (blk_below (g := gb595) (o := .cells #[.int .u64 a0_0, .int .u64 a0_1, .int .u64 a0_2, .int .i64 a0_3, .int .i64 a0_4, .bool a0_5] 24 (0, 0)) (by (with_reducible repeat (first | refine blk_drewN ?_ _ | refine blk_drew ?_ | refine blk_alloc ?_ _)); exact BK595.out) hb); have n1_ := Aside0.mk (blk_below (g := gb596) (o := .cells #[.int .u64 a1_0, .int .u64 a1_1, .int .u64 a1_2, .int .i64 a1_3, .int .i64 a1_4, .bool a1_5] 24 (0, 0)) (by (with_reducible repeat (first | refine blk_drewN ?_ _ | refine blk_drew ?_ | refine blk_alloc ?_ _)); exact BK596.out) hb); have n2_ := Aside0.mk (blk_below (g := gb597) (o := .cells #[.int .u64 a2_0, .int .u64 a2_1, .int .u64 a2_2, .int .i64 a2_3, .int .i64 a2_4, .bool a2_5] 24 (0, 0)) (by (with_reducible repeat (first | refine blk_drewN ?_ _ | refine blk_drew ?_ | refine blk_alloc ?_ _)); exact BK597.out) hb); have n3_ := Aside0.mk (below_step (by repeat (first | (with_reducible first | exact HB.out | apply below_alloc | apply pw_below_drewN | apply below_drew1 | refine below_set ?_ GE595.out | refine below_set ?_ GE596.out | refine below_set ?_ GE597.out) | exact HB.out)) hb); clear BK595; clear BK596; clear BK597; clear HB; have BK595 := n0_; have BK596 := n1_; have BK597 := n2_; have HB := n3_; clear n0_ n1_ n2_ n3_; (try clear hb); (try clear hb2); (try clear hk); (try clear hi); obtain ⟨hcz42_0, hcz42_1, hcz42_2, hcz42_3, hcz42_4, hcz42_5, hfz42_0, hfz42_1, hfz42_2, hfz42_3, hfz42_4, hfz42_5⟩ := cells6 BK595.out; obtain ⟨hcz43_0, hcz43_1, hcz43_2, hcz43_3, hcz43_4, hcz43_5, hfz43_0, hfz43_1, hfz43_2, hfz43_3, hfz43_4, hfz43_5⟩ := cells6 BK597.out) | ((with_reducible refine gate_dst (N := 54) rfl ?_); (with_reducible refine gate_callee (f := 31) rfl ?_); refine goesL_ (some 54) rfl rfl Tryd.func31 (by kernel_rfl) rfl #[.agg #[.int .u64 a0_0, .int .u64 a0_1, .int .u64 a0_2, .int .i64 a0_3, .int .i64 a0_4, .bool a0_5], .agg #[.int .u64 a2_0, .int .u64 a2_1, .int .u64 a2_2, .int .i64 a2_3, .int .i64 a2_4, .bool a2_5]] rfl (by (try simp only [List.map_toArray, List.map_cons, List.map_nil]); first | done | rfl | (simp only [List.length_drop, List.length_take]; rfl)) ?_; (with_reducible refine (cap_Within.calls a0_0 a0_1 a0_2 a0_3 a0_4 a0_5 a2_0 a2_1 a2_2 a2_3 a2_4 a2_5 t604 _ A31.out).mono ?_); rintro e w44 ⟨rfl, hb⟩; refine ⟨_, rfl, ?_⟩; have n0_ := Aside0.mk (blk_below (g := gb595) (o := .cells #[.int .u64 a0_0, .int .u64 a0_1, .int .u64 a0_2, .int .i64 a0_3, .int .i64 a0_4, .bool a0_5] 24 (0, 0)) (by (with_reducible repeat (first | refine blk_drewN ?_ _ | refine blk_drew ?_ | refine blk_alloc ?_ _)); exact BK595.out) hb); have n1_ := Aside0.mk (blk_below (g := gb596) (o := .cells #[.int .u64 a1_0, .int .u64 a1_1, .int .u64 a1_2, .int .i64 a1_3, .int .i64 a1_4, .bool a1_5] 24 (0, 0)) (by (with_reducible repeat (first | refine blk_drewN ?_ _ | refine blk_drew ?_ | refine blk_alloc ?_ _)); exact BK596.out) hb); have n2_ := Aside0.mk (blk_below (g := gb597) (o := .cells #[.int .u64 a2_0, .int .u64 a2_1, .int .u64 a2_2, .int .i64 a2_3, .int .i64 a2_4, .bool a2_5] 24 (0, 0)) (by (with_reducible repeat (first | refine blk_drewN ?_ _ | refine blk_drew ?_ | refine blk_alloc ?_ _)); exact BK597.out) hb); have n3_ := Aside0.mk (below_step (by repeat (first | (with_reducible first | exact HB.out | apply below_alloc | apply pw_below_drewN | apply below_drew1 | refine below_set ?_ GE595.out | refine below_set ?_ GE596.out | refine below_set ?_ GE597.out) | exact HB.out)) hb); clear BK595; clear BK596; clear BK597; clear HB; have BK595 := n0_; have BK596 := n1_; have BK597 := n2_; have HB := n3_; clear n0_ n1_ n2_ n3_; (try clear hb); (try clear hb2); (try clear hk); (try clear hi)))
        (try simp only [Act.put, List.setIfInBounds_toArray, List.set_cons_zero, List.set_cons_succ])
        go_cut [76] (fun v76 wc => ∃ (kq : Nat) (x76_31 : Bool), v76 = .bool x76_31 ∧ Aside0 (curtilagelaw02_CapThrough.j1 kq a3 a4 t598 t602 x76_31 a0_0 a0_1 a0_2 a0_3 a0_4 a0_5 a1_0 a1_1 a1_2 a1_3 a1_4 a1_5 = some r) ∧ Aside0 (kq ≤ kj9) ∧ Aside0 (wc.heap[gb595]? = some (.cells #[.int .u64 a0_0, .int .u64 a0_1, .int .u64 a0_2, .int .i64 a0_3, .int .i64 a0_4, .bool a0_5] 24 (0, 0))) ∧ Aside0 (wc.heap[gb596]? = some (.cells #[.int .u64 a1_0, .int .u64 a1_1, .int .u64 a1_2, .int .i64 a1_3, .int .i64 a1_4, .bool a1_5] 24 (0, 0))) ∧ Aside0 (wc.heap[gb597]? = some (.cells #[.int .u64 a2_0, .int .u64 a2_1, .int .u64 a2_2, .int .i64 a2_3, .int .i64 a2_4, .bool a2_5] 24 (0, 0))) ∧ Aside0 (Below w.heap.size w wc))
        case first =>
          have H := HC32.out
          clear HC32
          by_cases c45 : t602 = true
          · subst c45
            have H1 : (if t603 = true then (if t604 = true then (curtilagelaw02_CapThrough.j1 kj9 a3 a4 t598 true false a0_0 a0_1 a0_2 a0_3 a0_4 a0_5 a1_0 a1_1 a1_2 a1_3 a1_4 a1_5) else (if a1_0 < a1_1 then (curtilagelaw02_CapThrough.j1 kj9 a3 a4 t598 true true a0_0 a0_1 a0_2 a0_3 a0_4 a0_5 a1_0 a1_1 a1_2 a1_3 a1_4 a1_5) else (curtilagelaw02_CapThrough.j1 kj9 a3 a4 t598 true (decide (a0_0 ≥ a0_1)) a0_0 a0_1 a0_2 a0_3 a0_4 a0_5 a1_0 a1_1 a1_2 a1_3 a1_4 a1_5))) else (curtilagelaw02_CapThrough.j1 kj9 a3 a4 t598 true false a0_0 a0_1 a0_2 a0_3 a0_4 a0_5 a1_0 a1_1 a1_2 a1_3 a1_4 a1_5)) = some r := by rw [if_pos rfl] at H; exact H
            clear H
            have H := H1
            clear H1
            by_cases c46 : t603 = true
            · subst c46
              have H1 : (if t604 = true then (curtilagelaw02_CapThrough.j1 kj9 a3 a4 t598 true false a0_0 a0_1 a0_2 a0_3 a0_4 a0_5 a1_0 a1_1 a1_2 a1_3 a1_4 a1_5) else (if a1_0 < a1_1 then (curtilagelaw02_CapThrough.j1 kj9 a3 a4 t598 true true a0_0 a0_1 a0_2 a0_3 a0_4 a0_5 a1_0 a1_1 a1_2 a1_3 a1_4 a1_5) else (curtilagelaw02_CapThrough.j1 kj9 a3 a4 t598 true (decide (a0_0 ≥ a0_1)) a0_0 a0_1 a0_2 a0_3 a0_4 a0_5 a1_0 a1_1 a1_2 a1_3 a1_4 a1_5))) = some r := by rw [if_pos rfl] at H; exact H
              clear H
              have H := H1
              clear H1
              by_cases c47 : t604 = true
              · subst c47
                have H1 : (curtilagelaw02_CapThrough.j1 kj9 a3 a4 t598 true false a0_0 a0_1 a0_2 a0_3 a0_4 a0_5 a1_0 a1_1 a1_2 a1_3 a1_4 a1_5) = some r := by rw [if_pos rfl] at H; exact H
                clear H
                have H := H1
                clear H1
                have H' := Aside0.mk H
                clear H
                go_wp2
                go_meet
                case rel => exact ⟨_, (false), (by first | rfl | (simp; done) | (simp [*]; done)), H', ⟨by have := HJ9.out; first | omega | exact Nat.le_refl _⟩, ⟨by (with_reducible repeat (first | refine blk_drewN ?_ _ | refine blk_drew ?_ | refine blk_alloc ?_ _)); exact BK595.out⟩, ⟨by (with_reducible repeat (first | refine blk_drewN ?_ _ | refine blk_drew ?_ | refine blk_alloc ?_ _)); exact BK596.out⟩, ⟨by (with_reducible repeat (first | refine blk_drewN ?_ _ | refine blk_drew ?_ | refine blk_alloc ?_ _)); exact BK597.out⟩, ⟨by repeat (first | (with_reducible first | exact HB.out | apply below_alloc | apply pw_below_drewN | apply below_drew1 | refine below_set ?_ GE595.out | refine below_set ?_ GE596.out | refine below_set ?_ GE597.out) | exact HB.out)⟩⟩
              · replace c47 := Bool.eq_false_iff.mpr c47
                subst c47
                have H1 : (if a1_0 < a1_1 then (curtilagelaw02_CapThrough.j1 kj9 a3 a4 t598 true true a0_0 a0_1 a0_2 a0_3 a0_4 a0_5 a1_0 a1_1 a1_2 a1_3 a1_4 a1_5) else (curtilagelaw02_CapThrough.j1 kj9 a3 a4 t598 true (decide (a0_0 ≥ a0_1)) a0_0 a0_1 a0_2 a0_3 a0_4 a0_5 a1_0 a1_1 a1_2 a1_3 a1_4 a1_5)) = some r := by rw [if_neg (show ¬ (false = true) by decide)] at H; exact H
                clear H
                have H := H1
                clear H1
                by_cases c48 : a1_0 < a1_1
                · rw [if_pos c48] at H
                  have c48b0 : decide (a1_0 < a1_1) = true := decide_eq_true c48
                  clear c48
                  (first | rw [c48b0] | (simp only [i64_w, i32_w]; rw [c48b0]) | skip)
                  have H' := Aside0.mk H
                  clear H
                  have hnb49 := NB596_595.out
                  have hnc49 := NB595_596.out
                  have hnb50 := NB596_597.out
                  have hnc50 := NB597_596.out
                  have hcz51_0 : w44.cell? ⟨gb596, 0, none⟩ = some (.int .u64 a1_0) := (blk_cell BK596.out 0).trans rfl
                  have hcz51_1 : w44.cell? ⟨gb596, 1, none⟩ = some (.int .u64 a1_1) := (blk_cell BK596.out 1).trans rfl
                  have hcz51_2 : w44.cell? ⟨gb596, 2, none⟩ = some (.int .u64 a1_2) := (blk_cell BK596.out 2).trans rfl
                  have hcz51_3 : w44.cell? ⟨gb596, 3, none⟩ = some (.int .i64 a1_3) := (blk_cell BK596.out 3).trans rfl
                  have hcz51_4 : w44.cell? ⟨gb596, 4, none⟩ = some (.int .i64 a1_4) := (blk_cell BK596.out 4).trans rfl
                  have hcz51_5 : w44.cell? ⟨gb596, 5, none⟩ = some (.bool a1_5) := (blk_cell BK596.out 5).trans rfl
                  have hfz51_0 := blk_frozen BK596.out 0
                  have hfz51_1 := blk_frozen BK596.out 1
                  have hfz51_2 := blk_frozen BK596.out 2
                  have hfz51_3 := blk_frozen BK596.out 3
                  have hfz51_4 := blk_frozen BK596.out 4
                  have hfz51_5 := blk_frozen BK596.out 5
                  go_wp2
                  go_meet
                  case rel => exact ⟨_, (true), (by first | rfl | (simp; done) | (simp [*]; done)), H', ⟨by have := HJ9.out; first | omega | exact Nat.le_refl _⟩, ⟨by (with_reducible repeat (first | refine blk_drewN ?_ _ | refine blk_drew ?_ | refine blk_alloc ?_ _)); exact BK595.out⟩, ⟨by (with_reducible repeat (first | refine blk_drewN ?_ _ | refine blk_drew ?_ | refine blk_alloc ?_ _)); exact BK596.out⟩, ⟨by (with_reducible repeat (first | refine blk_drewN ?_ _ | refine blk_drew ?_ | refine blk_alloc ?_ _)); exact BK597.out⟩, ⟨by repeat (first | (with_reducible first | exact HB.out | apply below_alloc | apply pw_below_drewN | apply below_drew1 | refine below_set ?_ GE595.out | refine below_set ?_ GE596.out | refine below_set ?_ GE597.out) | exact HB.out)⟩⟩
                · rw [if_neg c48] at H
                  have c48b0 : decide (a1_0 < a1_1) = false := decide_eq_false c48
                  clear c48
                  (first | rw [c48b0] | (simp only [i64_w, i32_w]; rw [c48b0]) | skip)
                  have H' := Aside0.mk H
                  clear H
                  have hnb52 := NB596_595.out
                  have hnc52 := NB595_596.out
                  have hnb53 := NB596_597.out
                  have hnc53 := NB597_596.out
                  have hcz54_0 : w44.cell? ⟨gb596, 0, none⟩ = some (.int .u64 a1_0) := (blk_cell BK596.out 0).trans rfl
                  have hcz54_1 : w44.cell? ⟨gb596, 1, none⟩ = some (.int .u64 a1_1) := (blk_cell BK596.out 1).trans rfl
                  have hcz54_2 : w44.cell? ⟨gb596, 2, none⟩ = some (.int .u64 a1_2) := (blk_cell BK596.out 2).trans rfl
                  have hcz54_3 : w44.cell? ⟨gb596, 3, none⟩ = some (.int .i64 a1_3) := (blk_cell BK596.out 3).trans rfl
                  have hcz54_4 : w44.cell? ⟨gb596, 4, none⟩ = some (.int .i64 a1_4) := (blk_cell BK596.out 4).trans rfl
                  have hcz54_5 : w44.cell? ⟨gb596, 5, none⟩ = some (.bool a1_5) := (blk_cell BK596.out 5).trans rfl
                  have hfz54_0 := blk_frozen BK596.out 0
                  have hfz54_1 := blk_frozen BK596.out 1
                  have hfz54_2 := blk_frozen BK596.out 2
                  have hfz54_3 := blk_frozen BK596.out 3
                  have hfz54_4 := blk_frozen BK596.out 4
                  have hfz54_5 := blk_frozen BK596.out 5
                  have hnb55 := NB595_597.out
                  have hnc55 := NB597_595.out
                  have hcz56_0 : w44.cell? ⟨gb595, 0, none⟩ = some (.int .u64 a0_0) := (blk_cell BK595.out 0).trans rfl
                  have hcz56_1 : w44.cell? ⟨gb595, 1, none⟩ = some (.int .u64 a0_1) := (blk_cell BK595.out 1).trans rfl
                  have hcz56_2 : w44.cell? ⟨gb595, 2, none⟩ = some (.int .u64 a0_2) := (blk_cell BK595.out 2).trans rfl
                  have hcz56_3 : w44.cell? ⟨gb595, 3, none⟩ = some (.int .i64 a0_3) := (blk_cell BK595.out 3).trans rfl
                  have hcz56_4 : w44.cell? ⟨gb595, 4, none⟩ = some (.int .i64 a0_4) := (blk_cell BK595.out 4).trans rfl
                  have hcz56_5 : w44.cell? ⟨gb595, 5, none⟩ = some (.bool a0_5) := (blk_cell BK595.out 5).trans rfl
                  have hfz56_0 := blk_frozen BK595.out 0
                  have hfz56_1 := blk_frozen BK595.out 1
                  have hfz56_2 := blk_frozen BK595.out 2
                  have hfz56_3 := blk_frozen BK595.out 3
                  have hfz56_4 := blk_frozen BK595.out 4
                  have hfz56_5 := blk_frozen BK595.out 5
                  go_wp2
                  go_meet
                  case rel => exact ⟨_, (decide (a0_0 ≥ a0_1)), (by first | rfl | (simp; done) | (simp [*]; done)), H', ⟨by have := HJ9.out; first | omega | exact Nat.le_refl _⟩, ⟨by (with_reducible repeat (first | refine blk_drewN ?_ _ | refine blk_drew ?_ | refine blk_alloc ?_ _)); exact BK595.out⟩, ⟨by (with_reducible repeat (first | refine blk_drewN ?_ _ | refine blk_drew ?_ | refine blk_alloc ?_ _)); exact BK596.out⟩, ⟨by (with_reducible repeat (first | refine blk_drewN ?_ _ | refine blk_drew ?_ | refine blk_alloc ?_ _)); exact BK597.out⟩, ⟨by repeat (first | (with_reducible first | exact HB.out | apply below_alloc | apply pw_below_drewN | apply below_drew1 | refine below_set ?_ GE595.out | refine below_set ?_ GE596.out | refine below_set ?_ GE597.out) | exact HB.out)⟩⟩
            · replace c46 := Bool.eq_false_iff.mpr c46
              subst c46
              have H1 : (curtilagelaw02_CapThrough.j1 kj9 a3 a4 t598 true false a0_0 a0_1 a0_2 a0_3 a0_4 a0_5 a1_0 a1_1 a1_2 a1_3 a1_4 a1_5) = some r := by rw [if_neg (show ¬ (false = true) by decide)] at H; exact H
              clear H
              have H := H1
              clear H1
              have H' := Aside0.mk H
              clear H
              go_wp2
              go_meet
              case rel => exact ⟨_, (false), (by first | rfl | (simp; done) | (simp [*]; done)), H', ⟨by have := HJ9.out; first | omega | exact Nat.le_refl _⟩, ⟨by (with_reducible repeat (first | refine blk_drewN ?_ _ | refine blk_drew ?_ | refine blk_alloc ?_ _)); exact BK595.out⟩, ⟨by (with_reducible repeat (first | refine blk_drewN ?_ _ | refine blk_drew ?_ | refine blk_alloc ?_ _)); exact BK596.out⟩, ⟨by (with_reducible repeat (first | refine blk_drewN ?_ _ | refine blk_drew ?_ | refine blk_alloc ?_ _)); exact BK597.out⟩, ⟨by repeat (first | (with_reducible first | exact HB.out | apply below_alloc | apply pw_below_drewN | apply below_drew1 | refine below_set ?_ GE595.out | refine below_set ?_ GE596.out | refine below_set ?_ GE597.out) | exact HB.out)⟩⟩
          · replace c45 := Bool.eq_false_iff.mpr c45
            subst c45
            have H1 : (curtilagelaw02_CapThrough.j1 kj9 a3 a4 t598 false false a0_0 a0_1 a0_2 a0_3 a0_4 a0_5 a1_0 a1_1 a1_2 a1_3 a1_4 a1_5) = some r := by rw [if_neg (show ¬ (false = true) by decide)] at H; exact H
            clear H
            have H := H1
            clear H1
            have H' := Aside0.mk H
            clear H
            go_wp2
            go_meet
            case rel => exact ⟨_, (false), (by first | rfl | (simp; done) | (simp [*]; done)), H', ⟨by have := HJ9.out; first | omega | exact Nat.le_refl _⟩, ⟨by (with_reducible repeat (first | refine blk_drewN ?_ _ | refine blk_drew ?_ | refine blk_alloc ?_ _)); exact BK595.out⟩, ⟨by (with_reducible repeat (first | refine blk_drewN ?_ _ | refine blk_drew ?_ | refine blk_alloc ?_ _)); exact BK596.out⟩, ⟨by (with_reducible repeat (first | refine blk_drewN ?_ _ | refine blk_drew ?_ | refine blk_alloc ?_ _)); exact BK597.out⟩, ⟨by repeat (first | (with_reducible first | exact HB.out | apply below_alloc | apply pw_below_drewN | apply below_drew1 | refine below_set ?_ GE595.out | refine below_set ?_ GE596.out | refine below_set ?_ GE597.out) | exact HB.out)⟩⟩
        case rest =>
          clear HC32
          try clear c1
          try clear c2
          try clear p2
          try clear c3
          try clear c4
          try clear c5
          try clear c8
          try clear c10
          try clear c11
          try clear c15
          try clear c16
          try clear c19
          try clear c24
          try clear c25
          try clear c26
          try clear c27
          try clear c27b0
          try clear c28
          try clear c31
          try clear c33
          try clear c34
          try clear c36
          try clear c45
          try clear c46
          try clear c47
          try clear c48
          try clear c48b0
          try clear c49
          try clear c50
          try clear c52
          try clear c53
          try clear c55
          try clear hcz17_0
          try clear hcz17_1
          try clear hcz17_2
          try clear hcz17_3
          try clear hcz17_4
          try clear hcz17_5
          try clear hcz20_0
          try clear hcz20_1
          try clear hcz20_2
          try clear hcz20_3
          try clear hcz20_4
          try clear hcz20_5
          try clear hcz22_0
          try clear hcz22_1
          try clear hcz22_2
          try clear hcz22_3
          try clear hcz22_4
          try clear hcz22_5
          try clear hcz35_0
          try clear hcz35_1
          try clear hcz35_2
          try clear hcz35_3
          try clear hcz35_4
          try clear hcz35_5
          try clear hcz37_0
          try clear hcz37_1
          try clear hcz37_2
          try clear hcz37_3
          try clear hcz37_4
          try clear hcz37_5
          try clear hcz39_0
          try clear hcz39_1
          try clear hcz39_2
          try clear hcz39_3
          try clear hcz39_4
          try clear hcz39_5
          try clear hcz40_0
          try clear hcz40_1
          try clear hcz40_2
          try clear hcz40_3
          try clear hcz40_4
          try clear hcz40_5
          try clear hcz42_0
          try clear hcz42_1
          try clear hcz42_2
          try clear hcz42_3
          try clear hcz42_4
          try clear hcz42_5
          try clear hcz43_0
          try clear hcz43_1
          try clear hcz43_2
          try clear hcz43_3
          try clear hcz43_4
          try clear hcz43_5
          try clear hcz51_0
          try clear hcz51_1
          try clear hcz51_2
          try clear hcz51_3
          try clear hcz51_4
          try clear hcz51_5
          try clear hcz54_0
          try clear hcz54_1
          try clear hcz54_2
          try clear hcz54_3
          try clear hcz54_4
          try clear hcz54_5
          try clear hcz56_0
          try clear hcz56_1
          try clear hcz56_2
          try clear hcz56_3
          try clear hcz56_4
          try clear hcz56_5
          try clear hfz17_0
          try clear hfz17_1
          try clear hfz17_2
          try clear hfz17_3
          try clear hfz17_4
          try clear hfz17_5
          try clear hfz20_0
          try clear hfz20_1
          try clear hfz20_2
          try clear hfz20_3
          try clear hfz20_4
          try clear hfz20_5
          try clear hfz22_0
          try clear hfz22_1
          try clear hfz22_2
          try clear hfz22_3
          try clear hfz22_4
          try clear hfz22_5
          try clear hfz35_0
          try clear hfz35_1
          try clear hfz35_2
          try clear hfz35_3
          try clear hfz35_4
          try clear hfz35_5
          try clear hfz37_0
          try clear hfz37_1
          try clear hfz37_2
          try clear hfz37_3
          try clear hfz37_4
          try clear hfz37_5
          try clear hfz39_0
          try clear hfz39_1
          try clear hfz39_2
          try clear hfz39_3
          try clear hfz39_4
          try clear hfz39_5
          try clear hfz40_0
          try clear hfz40_1
          try clear hfz40_2
          try clear hfz40_3
          try clear hfz40_4
          try clear hfz40_5
          try clear hfz42_0
          try clear hfz42_1
          try clear hfz42_2
          try clear hfz42_3
          try clear hfz42_4
          try clear hfz42_5
          try clear hfz43_0
          try clear hfz43_1
          try clear hfz43_2
          try clear hfz43_3
          try clear hfz43_4
          try clear hfz43_5
          try clear hfz51_0
          try clear hfz51_1
          try clear hfz51_2
          try clear hfz51_3
          try clear hfz51_4
          try clear hfz51_5
          try clear hfz54_0
          try clear hfz54_1
          try clear hfz54_2
          try clear hfz54_3
          try clear hfz54_4
          try clear hfz54_5
          try clear hfz56_0
          try clear hfz56_1
          try clear hfz56_2
          try clear hfz56_3
          try clear hfz56_4
          try clear hfz56_5
          try clear p2
          obtain ⟨kq, x76_31, rfl, HA, HJ31, BK595, BK596, BK597, HB⟩ := hcut
          cases kq with
          | zero => exact absurd HA.out (by simp [curtilagelaw02_CapThrough.j1])
          | succ kj31 =>
            have H := HA.out
            clear HA
            simp only [curtilagelaw02_CapThrough.j1] at H
            by_cases c57 : x76_31 = true
            · subst c57
              have H1 : (some false) = some r := by rw [if_pos rfl] at H; exact H
              clear H
              have H := H1
              clear H1
              exact absurd ((Option.some.inj H).trans HT.out) (by decide)
            · replace c57 := Bool.eq_false_iff.mpr c57
              subst c57
              have H1 : ((cap_Check.f a0_0 a0_1 a0_2 a0_3 a0_4 a0_5 a3 a4).bind fun t605 => ((cap_Move.f a1_0 a1_1 a1_2 a1_3 a1_4 a1_5 a0_2).bind fun bt606 => ((cap_Check.f bt606.1 bt606.2.1 bt606.2.2.1 bt606.2.2.2.1 bt606.2.2.2.2.1 bt606.2.2.2.2.2 a3 a4).bind fun t612 => (if t598 = true then (if t602 = true then (if t605 = 0 then (if a3 = 0 then (some true) else (some (t612 == 0))) else (some true)) else (some true)) else (some false))))) = some r := by rw [if_neg (show ¬ (false = true) by decide)] at H; exact H
              clear H
              have H := H1
              clear H1
              replace H := Option.bind_eq_some_iff.mp H
              obtain ⟨t605, A580, H⟩ := H
              replace H : ((cap_Move.f a1_0 a1_1 a1_2 a1_3 a1_4 a1_5 a0_2).bind fun bt606 => ((cap_Check.f bt606.1 bt606.2.1 bt606.2.2.1 bt606.2.2.2.1 bt606.2.2.2.2.1 bt606.2.2.2.2.2 a3 a4).bind fun t612 => (if t598 = true then (if t602 = true then (if t605 = 0 then (if a3 = 0 then (some true) else (some (t612 == 0))) else (some true)) else (some true)) else (some false)))) = some r := H
              have A58 := Aside0.mk A580
              clear A580
              replace H := Option.bind_eq_some_iff.mp H
              obtain ⟨⟨t606, t607, t608, t609, t610, t611⟩, A590, H⟩ := H
              replace H : ((cap_Check.f t606 t607 t608 t609 t610 t611 a3 a4).bind fun t612 => (if t598 = true then (if t602 = true then (if t605 = 0 then (if a3 = 0 then (some true) else (some (t612 == 0))) else (some true)) else (some true)) else (some false))) = some r := H
              have A59 := Aside0.mk A590
              clear A590
              replace H := Option.bind_eq_some_iff.mp H
              obtain ⟨t612, A600, H⟩ := H
              replace H : (if t598 = true then (if t602 = true then (if t605 = 0 then (if a3 = 0 then (some true) else (some (t612 == 0))) else (some true)) else (some true)) else (some false)) = some r := H
              have A60 := Aside0.mk A600
              clear A600
              by_cases c61 : t598 = true
              · subst c61
                have H1 : (if t602 = true then (if t605 = 0 then (if a3 = 0 then (some true) else (some (t612 == 0))) else (some true)) else (some true)) = some r := by rw [if_pos rfl] at H; exact H
                clear H
                have H := H1
                clear H1
                by_cases c62 : t602 = true
                · subst c62
                  have H1 : (if t605 = 0 then (if a3 = 0 then (some true) else (some (t612 == 0))) else (some true)) = some r := by rw [if_pos rfl] at H; exact H
                  clear H
                  have H := H1
                  clear H1
                  by_cases c63 : t605 = 0
                  · rw [if_pos c63] at H
                    have c63b0 : (t605 == 0) = true := beq_iff_eq.mpr c63
                    have c63b1 : (t605 != 0) = false := bne_eq_false_iff_eq.mpr c63
                    clear c63
                    by_cases c64 : a3 = 0
                    · rw [if_pos c64] at H
                      have c64b0 : (a3 == 0) = true := beq_iff_eq.mpr c64
                      have c64b1 : (a3 != 0) = false := bne_eq_false_iff_eq.mpr c64
                      clear c64
                      obtain rfl := Option.some.inj H
                      have hnb65 := NB595_596.out
                      have hnc65 := NB596_595.out
                      have hnb66 := NB595_597.out
                      have hnc66 := NB597_595.out
                      have hcz67_0 : wc.cell? ⟨gb595, 0, none⟩ = some (.int .u64 a0_0) := (blk_cell BK595.out 0).trans rfl
                      have hcz67_1 : wc.cell? ⟨gb595, 1, none⟩ = some (.int .u64 a0_1) := (blk_cell BK595.out 1).trans rfl
                      have hcz67_2 : wc.cell? ⟨gb595, 2, none⟩ = some (.int .u64 a0_2) := (blk_cell BK595.out 2).trans rfl
                      have hcz67_3 : wc.cell? ⟨gb595, 3, none⟩ = some (.int .i64 a0_3) := (blk_cell BK595.out 3).trans rfl
                      have hcz67_4 : wc.cell? ⟨gb595, 4, none⟩ = some (.int .i64 a0_4) := (blk_cell BK595.out 4).trans rfl
                      have hcz67_5 : wc.cell? ⟨gb595, 5, none⟩ = some (.bool a0_5) := (blk_cell BK595.out 5).trans rfl
                      have hfz67_0 := blk_frozen BK595.out 0
                      have hfz67_1 := blk_frozen BK595.out 1
                      have hfz67_2 := blk_frozen BK595.out 2
                      have hfz67_3 := blk_frozen BK595.out 3
                      have hfz67_4 := blk_frozen BK595.out 4
                      have hfz67_5 := blk_frozen BK595.out 5
                      go_wp2_with (first | ((with_reducible refine gate_dst (N := 80) rfl ?_); (with_reducible refine gate_callee (f := 17) rfl ?_); refine goesL_ (some 80) rfl rfl Tryd.func17 (by kernel_rfl) rfl #[.agg #[.int .u64 a0_0, .int .u64 a0_1, .int .u64 a0_2, .int .i64 a0_3, .int .i64 a0_4, .bool a0_5], .int .u64 a3, .int .i64 a4] rfl (by (try simp only [List.map_toArray, List.map_cons, List.map_nil]); first | done | rfl | (simp only [List.length_drop, List.length_take]; rfl)) ?_; (with_reducible refine (cap_Check.calls a0_0 a0_1 a0_2 a0_3 a0_4 a0_5 a3 a4 t605 _ A58.out).mono ?_); rintro e w68 ⟨rfl, hb⟩; refine ⟨_, rfl, ?_⟩; have n0_ := Aside0.mk (blk_below (g := gb595) (o := .cells #[.int .u64 a0_0, .int .u64 a0_1, .int .u64 a0_2, .int .i64 a0_3, .int .i64 a0_4, .bool a0_5] 24 (0, 0)) (by (with_reducible repeat (first | refine blk_drewN ?_ _ | refine blk_drew ?_ | refine blk_alloc ?_ _)); exact BK595.out) hb); have n1_ := Aside0.mk (blk_below (g := gb596) (o := .cells #[.int .u64 a1_0, .int .u64 a1_1, .int .u64 a1_2, .int .i64 a1_3, .int .i64 a1_4, .bool a1_5] 24 (0, 0)) (by (with_reducible repeat (first | refine blk_drewN ?_ _ | refine blk_drew ?_ | refine blk_alloc ?_ _)); exact BK596.out) hb); have n2_ := Aside0.mk (blk_below (g := gb597) (o := .cells #[.int .u64 a2_0, .int .u64 a2_1, .int .u64 a2_2, .int .i64 a2_3, .int .i64 a2_4, .bool a2_5] 24 (0, 0)) (by (with_reducible repeat (first | refine blk_drewN ?_ _ | refine blk_drew ?_ | refine blk_alloc ?_ _)); exact BK597.out) hb); have n3_ := Aside0.mk (below_step (by repeat (first | (with_reducible first | exact HB.out | apply below_alloc | apply pw_below_drewN | apply below_drew1 | refine below_set ?_ GE595.out | refine below_set ?_ GE596.out | refine below_set ?_ GE597.out) | exact HB.out)) hb); clear BK595; clear BK596; clear BK597; clear HB; have BK595 := n0_; have BK596 := n1_; have BK597 := n2_; have HB := n3_; clear n0_ n1_ n2_ n3_; (try clear hb); (try clear hb2); (try clear hk); (try clear hi); have hnb69 := NB596_597.out; have hnc69 := NB597_596.out; obtain ⟨hcz70_0, hcz70_1, hcz70_2, hcz70_3, hcz70_4, hcz70_5, hfz70_0, hfz70_1, hfz70_2, hfz70_3, hfz70_4, hfz70_5⟩ := cells6 BK596.out; obtain ⟨hcz71_0, hcz71_1, hcz71_2, hcz71_3, hcz71_4, hcz71_5, hfz71_0, hfz71_1, hfz71_2, hfz71_3, hfz71_4, hfz71_5⟩ := cells6 BK595.out) | ((with_reducible refine gate_dst (N := 84) rfl ?_); (with_reducible refine gate_callee (f := 18) rfl ?_); refine goesL_ (some 84) rfl rfl Tryd.func18 (by kernel_rfl) rfl #[.agg #[.int .u64 a1_0, .int .u64 a1_1, .int .u64 a1_2, .int .i64 a1_3, .int .i64 a1_4, .bool a1_5], .int .u64 a0_2] rfl (by (try simp only [List.map_toArray, List.map_cons, List.map_nil]); first | done | rfl | (simp only [List.length_drop, List.length_take]; rfl)) ?_; (with_reducible refine (cap_Move.calls a1_0 a1_1 a1_2 a1_3 a1_4 a1_5 a0_2 t606 t607 t608 t609 t610 t611 _ A59.out).mono ?_); rintro e w72 ⟨rfl, hb⟩; refine ⟨_, rfl, ?_⟩; have n0_ := Aside0.mk (blk_below (g := gb595) (o := .cells #[.int .u64 a0_0, .int .u64 a0_1, .int .u64 a0_2, .int .i64 a0_3, .int .i64 a0_4, .bool a0_5] 24 (0, 0)) (by (with_reducible repeat (first | refine blk_drewN ?_ _ | refine blk_drew ?_ | refine blk_alloc ?_ _)); exact BK595.out) hb); have n1_ := Aside0.mk (blk_below (g := gb596) (o := .cells #[.int .u64 a1_0, .int .u64 a1_1, .int .u64 a1_2, .int .i64 a1_3, .int .i64 a1_4, .bool a1_5] 24 (0, 0)) (by (with_reducible repeat (first | refine blk_drewN ?_ _ | refine blk_drew ?_ | refine blk_alloc ?_ _)); exact BK596.out) hb); have n2_ := Aside0.mk (blk_below (g := gb597) (o := .cells #[.int .u64 a2_0, .int .u64 a2_1, .int .u64 a2_2, .int .i64 a2_3, .int .i64 a2_4, .bool a2_5] 24 (0, 0)) (by (with_reducible repeat (first | refine blk_drewN ?_ _ | refine blk_drew ?_ | refine blk_alloc ?_ _)); exact BK597.out) hb); have n3_ := Aside0.mk (below_step (by repeat (first | (with_reducible first | exact HB.out | apply below_alloc | apply pw_below_drewN | apply below_drew1 | refine below_set ?_ GE595.out | refine below_set ?_ GE596.out | refine below_set ?_ GE597.out) | exact HB.out)) hb); clear BK595; clear BK596; clear BK597; clear HB; have BK595 := n0_; have BK596 := n1_; have BK597 := n2_; have HB := n3_; clear n0_ n1_ n2_ n3_; (try clear hb); (try clear hb2); (try clear hk); (try clear hi)) | ((with_reducible refine gate_dst (N := 87) rfl ?_); (with_reducible refine gate_callee (f := 17) rfl ?_); refine goesL_ (some 87) rfl rfl Tryd.func17 (by kernel_rfl) rfl #[.agg #[.int .u64 t606, .int .u64 t607, .int .u64 t608, .int .i64 t609, .int .i64 t610, .bool t611], .int .u64 a3, .int .i64 a4] rfl (by (try simp only [List.map_toArray, List.map_cons, List.map_nil]); first | done | rfl | (simp only [List.length_drop, List.length_take]; rfl)) ?_; (with_reducible refine (cap_Check.calls t606 t607 t608 t609 t610 t611 a3 a4 t612 _ A60.out).mono ?_); rintro e w73 ⟨rfl, hb⟩; refine ⟨_, rfl, ?_⟩; have n0_ := Aside0.mk (blk_below (g := gb595) (o := .cells #[.int .u64 a0_0, .int .u64 a0_1, .int .u64 a0_2, .int .i64 a0_3, .int .i64 a0_4, .bool a0_5] 24 (0, 0)) (by (with_reducible repeat (first | refine blk_drewN ?_ _ | refine blk_drew ?_ | refine blk_alloc ?_ _)); exact BK595.out) hb); have n1_ := Aside0.mk (blk_below (g := gb596) (o := .cells #[.int .u64 a1_0, .int .u64 a1_1, .int .u64 a1_2, .int .i64 a1_3, .int .i64 a1_4, .bool a1_5] 24 (0, 0)) (by (with_reducible repeat (first | refine blk_drewN ?_ _ | refine blk_drew ?_ | refine blk_alloc ?_ _)); exact BK596.out) hb); have n2_ := Aside0.mk (blk_below (g := gb597) (o := .cells #[.int .u64 a2_0, .int .u64 a2_1, .int .u64 a2_2, .int .i64 a2_3, .int .i64 a2_4, .bool a2_5] 24 (0, 0)) (by (with_reducible repeat (first | refine blk_drewN ?_ _ | refine blk_drew ?_ | refine blk_alloc ?_ _)); exact BK597.out) hb); have n3_ := Aside0.mk (below_step (by repeat (first | (with_reducible first | exact HB.out | apply below_alloc | apply pw_below_drewN | apply below_drew1 | refine below_set ?_ GE595.out | refine below_set ?_ GE596.out | refine below_set ?_ GE597.out) | exact HB.out)) hb); clear BK595; clear BK596; clear BK597; clear HB; have BK595 := n0_; have BK596 := n1_; have BK597 := n2_; have HB := n3_; clear n0_ n1_ n2_ n3_; (try clear hb); (try clear hb2); (try clear hk); (try clear hi)))
                      go_ret
                      exact ⟨by first | rfl | (simp [errW_none, errW_some] <;> rfl) | (simp [*, errW_none, errW_some] <;> rfl), by repeat (first | (with_reducible first | exact HB.out | apply below_alloc | apply pw_below_drewN | apply below_drew1 | refine below_set ?_ GE595.out | refine below_set ?_ GE596.out | refine below_set ?_ GE597.out) | exact HB.out)⟩
                    · rw [if_neg c64] at H
                      have c64b0 : (a3 == 0) = false := beq_eq_false_iff_ne.mpr c64
                      have c64b1 : (a3 != 0) = true := bne_iff_ne.mpr c64
                      obtain rfl := Option.some.inj H
                      have hnb74 := NB595_596.out
                      have hnc74 := NB596_595.out
                      have hnb75 := NB595_597.out
                      have hnc75 := NB597_595.out
                      have hcz76_0 : wc.cell? ⟨gb595, 0, none⟩ = some (.int .u64 a0_0) := (blk_cell BK595.out 0).trans rfl
                      have hcz76_1 : wc.cell? ⟨gb595, 1, none⟩ = some (.int .u64 a0_1) := (blk_cell BK595.out 1).trans rfl
                      have hcz76_2 : wc.cell? ⟨gb595, 2, none⟩ = some (.int .u64 a0_2) := (blk_cell BK595.out 2).trans rfl
                      have hcz76_3 : wc.cell? ⟨gb595, 3, none⟩ = some (.int .i64 a0_3) := (blk_cell BK595.out 3).trans rfl
                      have hcz76_4 : wc.cell? ⟨gb595, 4, none⟩ = some (.int .i64 a0_4) := (blk_cell BK595.out 4).trans rfl
                      have hcz76_5 : wc.cell? ⟨gb595, 5, none⟩ = some (.bool a0_5) := (blk_cell BK595.out 5).trans rfl
                      have hfz76_0 := blk_frozen BK595.out 0
                      have hfz76_1 := blk_frozen BK595.out 1
                      have hfz76_2 := blk_frozen BK595.out 2
                      have hfz76_3 := blk_frozen BK595.out 3
                      have hfz76_4 := blk_frozen BK595.out 4
                      have hfz76_5 := blk_frozen BK595.out 5
                      go_wp2_with (first | ((with_reducible refine gate_dst (N := 80) rfl ?_); (with_reducible refine gate_callee (f := 17) rfl ?_); refine goesL_ (some 80) rfl rfl Tryd.func17 (by kernel_rfl) rfl #[.agg #[.int .u64 a0_0, .int .u64 a0_1, .int .u64 a0_2, .int .i64 a0_3, .int .i64 a0_4, .bool a0_5], .int .u64 a3, .int .i64 a4] rfl (by (try simp only [List.map_toArray, List.map_cons, List.map_nil]); first | done | rfl | (simp only [List.length_drop, List.length_take]; rfl)) ?_; (with_reducible refine (cap_Check.calls a0_0 a0_1 a0_2 a0_3 a0_4 a0_5 a3 a4 t605 _ A58.out).mono ?_); rintro e w77 ⟨rfl, hb⟩; refine ⟨_, rfl, ?_⟩; have n0_ := Aside0.mk (blk_below (g := gb595) (o := .cells #[.int .u64 a0_0, .int .u64 a0_1, .int .u64 a0_2, .int .i64 a0_3, .int .i64 a0_4, .bool a0_5] 24 (0, 0)) (by (with_reducible repeat (first | refine blk_drewN ?_ _ | refine blk_drew ?_ | refine blk_alloc ?_ _)); exact BK595.out) hb); have n1_ := Aside0.mk (blk_below (g := gb596) (o := .cells #[.int .u64 a1_0, .int .u64 a1_1, .int .u64 a1_2, .int .i64 a1_3, .int .i64 a1_4, .bool a1_5] 24 (0, 0)) (by (with_reducible repeat (first | refine blk_drewN ?_ _ | refine blk_drew ?_ | refine blk_alloc ?_ _)); exact BK596.out) hb); have n2_ := Aside0.mk (blk_below (g := gb597) (o := .cells #[.int .u64 a2_0, .int .u64 a2_1, .int .u64 a2_2, .int .i64 a2_3, .int .i64 a2_4, .bool a2_5] 24 (0, 0)) (by (with_reducible repeat (first | refine blk_drewN ?_ _ | refine blk_drew ?_ | refine blk_alloc ?_ _)); exact BK597.out) hb); have n3_ := Aside0.mk (below_step (by repeat (first | (with_reducible first | exact HB.out | apply below_alloc | apply pw_below_drewN | apply below_drew1 | refine below_set ?_ GE595.out | refine below_set ?_ GE596.out | refine below_set ?_ GE597.out) | exact HB.out)) hb); clear BK595; clear BK596; clear BK597; clear HB; have BK595 := n0_; have BK596 := n1_; have BK597 := n2_; have HB := n3_; clear n0_ n1_ n2_ n3_; (try clear hb); (try clear hb2); (try clear hk); (try clear hi); have hnb78 := NB596_597.out; have hnc78 := NB597_596.out; obtain ⟨hcz79_0, hcz79_1, hcz79_2, hcz79_3, hcz79_4, hcz79_5, hfz79_0, hfz79_1, hfz79_2, hfz79_3, hfz79_4, hfz79_5⟩ := cells6 BK596.out; obtain ⟨hcz80_0, hcz80_1, hcz80_2, hcz80_3, hcz80_4, hcz80_5, hfz80_0, hfz80_1, hfz80_2, hfz80_3, hfz80_4, hfz80_5⟩ := cells6 BK595.out) | ((with_reducible refine gate_dst (N := 84) rfl ?_); (with_reducible refine gate_callee (f := 18) rfl ?_); refine goesL_ (some 84) rfl rfl Tryd.func18 (by kernel_rfl) rfl #[.agg #[.int .u64 a1_0, .int .u64 a1_1, .int .u64 a1_2, .int .i64 a1_3, .int .i64 a1_4, .bool a1_5], .int .u64 a0_2] rfl (by (try simp only [List.map_toArray, List.map_cons, List.map_nil]); first | done | rfl | (simp only [List.length_drop, List.length_take]; rfl)) ?_; (with_reducible refine (cap_Move.calls a1_0 a1_1 a1_2 a1_3 a1_4 a1_5 a0_2 t606 t607 t608 t609 t610 t611 _ A59.out).mono ?_); rintro e w81 ⟨rfl, hb⟩; refine ⟨_, rfl, ?_⟩; have n0_ := Aside0.mk (blk_below (g := gb595) (o := .cells #[.int .u64 a0_0, .int .u64 a0_1, .int .u64 a0_2, .int .i64 a0_3, .int .i64 a0_4, .bool a0_5] 24 (0, 0)) (by (with_reducible repeat (first | refine blk_drewN ?_ _ | refine blk_drew ?_ | refine blk_alloc ?_ _)); exact BK595.out) hb); have n1_ := Aside0.mk (blk_below (g := gb596) (o := .cells #[.int .u64 a1_0, .int .u64 a1_1, .int .u64 a1_2, .int .i64 a1_3, .int .i64 a1_4, .bool a1_5] 24 (0, 0)) (by (with_reducible repeat (first | refine blk_drewN ?_ _ | refine blk_drew ?_ | refine blk_alloc ?_ _)); exact BK596.out) hb); have n2_ := Aside0.mk (blk_below (g := gb597) (o := .cells #[.int .u64 a2_0, .int .u64 a2_1, .int .u64 a2_2, .int .i64 a2_3, .int .i64 a2_4, .bool a2_5] 24 (0, 0)) (by (with_reducible repeat (first | refine blk_drewN ?_ _ | refine blk_drew ?_ | refine blk_alloc ?_ _)); exact BK597.out) hb); have n3_ := Aside0.mk (below_step (by repeat (first | (with_reducible first | exact HB.out | apply below_alloc | apply pw_below_drewN | apply below_drew1 | refine below_set ?_ GE595.out | refine below_set ?_ GE596.out | refine below_set ?_ GE597.out) | exact HB.out)) hb); clear BK595; clear BK596; clear BK597; clear HB; have BK595 := n0_; have BK596 := n1_; have BK597 := n2_; have HB := n3_; clear n0_ n1_ n2_ n3_; (try clear hb); (try clear hb2); (try clear hk); (try clear hi)) | ((with_reducible refine gate_dst (N := 87) rfl ?_); (with_reducible refine gate_callee (f := 17) rfl ?_); refine goesL_ (some 87) rfl rfl Tryd.func17 (by kernel_rfl) rfl #[.agg #[.int .u64 t606, .int .u64 t607, .int .u64 t608, .int .i64 t609, .int .i64 t610, .bool t611], .int .u64 a3, .int .i64 a4] rfl (by (try simp only [List.map_toArray, List.map_cons, List.map_nil]); first | done | rfl | (simp only [List.length_drop, List.length_take]; rfl)) ?_; (with_reducible refine (cap_Check.calls t606 t607 t608 t609 t610 t611 a3 a4 t612 _ A60.out).mono ?_); rintro e w82 ⟨rfl, hb⟩; refine ⟨_, rfl, ?_⟩; have n0_ := Aside0.mk (blk_below (g := gb595) (o := .cells #[.int .u64 a0_0, .int .u64 a0_1, .int .u64 a0_2, .int .i64 a0_3, .int .i64 a0_4, .bool a0_5] 24 (0, 0)) (by (with_reducible repeat (first | refine blk_drewN ?_ _ | refine blk_drew ?_ | refine blk_alloc ?_ _)); exact BK595.out) hb); have n1_ := Aside0.mk (blk_below (g := gb596) (o := .cells #[.int .u64 a1_0, .int .u64 a1_1, .int .u64 a1_2, .int .i64 a1_3, .int .i64 a1_4, .bool a1_5] 24 (0, 0)) (by (with_reducible repeat (first | refine blk_drewN ?_ _ | refine blk_drew ?_ | refine blk_alloc ?_ _)); exact BK596.out) hb); have n2_ := Aside0.mk (blk_below (g := gb597) (o := .cells #[.int .u64 a2_0, .int .u64 a2_1, .int .u64 a2_2, .int .i64 a2_3, .int .i64 a2_4, .bool a2_5] 24 (0, 0)) (by (with_reducible repeat (first | refine blk_drewN ?_ _ | refine blk_drew ?_ | refine blk_alloc ?_ _)); exact BK597.out) hb); have n3_ := Aside0.mk (below_step (by repeat (first | (with_reducible first | exact HB.out | apply below_alloc | apply pw_below_drewN | apply below_drew1 | refine below_set ?_ GE595.out | refine below_set ?_ GE596.out | refine below_set ?_ GE597.out) | exact HB.out)) hb); clear BK595; clear BK596; clear BK597; clear HB; have BK595 := n0_; have BK596 := n1_; have BK597 := n2_; have HB := n3_; clear n0_ n1_ n2_ n3_; (try clear hb); (try clear hb2); (try clear hk); (try clear hi)))
                      go_ret
                      exact ⟨by first | rfl | (simp [errW_none, errW_some] <;> rfl) | (simp [*, errW_none, errW_some] <;> rfl), by repeat (first | (with_reducible first | exact HB.out | apply below_alloc | apply pw_below_drewN | apply below_drew1 | refine below_set ?_ GE595.out | refine below_set ?_ GE596.out | refine below_set ?_ GE597.out) | exact HB.out)⟩
                  · rw [if_neg c63] at H
                    have c63b0 : (t605 == 0) = false := beq_eq_false_iff_ne.mpr c63
                    have c63b1 : (t605 != 0) = true := bne_iff_ne.mpr c63
                    obtain rfl := Option.some.inj H
                    have hnb83 := NB595_596.out
                    have hnc83 := NB596_595.out
                    have hnb84 := NB595_597.out
                    have hnc84 := NB597_595.out
                    have hcz85_0 : wc.cell? ⟨gb595, 0, none⟩ = some (.int .u64 a0_0) := (blk_cell BK595.out 0).trans rfl
                    have hcz85_1 : wc.cell? ⟨gb595, 1, none⟩ = some (.int .u64 a0_1) := (blk_cell BK595.out 1).trans rfl
                    have hcz85_2 : wc.cell? ⟨gb595, 2, none⟩ = some (.int .u64 a0_2) := (blk_cell BK595.out 2).trans rfl
                    have hcz85_3 : wc.cell? ⟨gb595, 3, none⟩ = some (.int .i64 a0_3) := (blk_cell BK595.out 3).trans rfl
                    have hcz85_4 : wc.cell? ⟨gb595, 4, none⟩ = some (.int .i64 a0_4) := (blk_cell BK595.out 4).trans rfl
                    have hcz85_5 : wc.cell? ⟨gb595, 5, none⟩ = some (.bool a0_5) := (blk_cell BK595.out 5).trans rfl
                    have hfz85_0 := blk_frozen BK595.out 0
                    have hfz85_1 := blk_frozen BK595.out 1
                    have hfz85_2 := blk_frozen BK595.out 2
                    have hfz85_3 := blk_frozen BK595.out 3
                    have hfz85_4 := blk_frozen BK595.out 4
                    have hfz85_5 := blk_frozen BK595.out 5
                    go_wp2_with (first | ((with_reducible refine gate_dst (N := 80) rfl ?_); (with_reducible refine gate_callee (f := 17) rfl ?_); refine goesL_ (some 80) rfl rfl Tryd.func17 (by kernel_rfl) rfl #[.agg #[.int .u64 a0_0, .int .u64 a0_1, .int .u64 a0_2, .int .i64 a0_3, .int .i64 a0_4, .bool a0_5], .int .u64 a3, .int .i64 a4] rfl (by (try simp only [List.map_toArray, List.map_cons, List.map_nil]); first | done | rfl | (simp only [List.length_drop, List.length_take]; rfl)) ?_; (with_reducible refine (cap_Check.calls a0_0 a0_1 a0_2 a0_3 a0_4 a0_5 a3 a4 t605 _ A58.out).mono ?_); rintro e w86 ⟨rfl, hb⟩; refine ⟨_, rfl, ?_⟩; have n0_ := Aside0.mk (blk_below (g := gb595) (o := .cells #[.int .u64 a0_0, .int .u64 a0_1, .int .u64 a0_2, .int .i64 a0_3, .int .i64 a0_4, .bool a0_5] 24 (0, 0)) (by (with_reducible repeat (first | refine blk_drewN ?_ _ | refine blk_drew ?_ | refine blk_alloc ?_ _)); exact BK595.out) hb); have n1_ := Aside0.mk (blk_below (g := gb596) (o := .cells #[.int .u64 a1_0, .int .u64 a1_1, .int .u64 a1_2, .int .i64 a1_3, .int .i64 a1_4, .bool a1_5] 24 (0, 0)) (by (with_reducible repeat (first | refine blk_drewN ?_ _ | refine blk_drew ?_ | refine blk_alloc ?_ _)); exact BK596.out) hb); have n2_ := Aside0.mk (blk_below (g := gb597) (o := .cells #[.int .u64 a2_0, .int .u64 a2_1, .int .u64 a2_2, .int .i64 a2_3, .int .i64 a2_4, .bool a2_5] 24 (0, 0)) (by (with_reducible repeat (first | refine blk_drewN ?_ _ | refine blk_drew ?_ | refine blk_alloc ?_ _)); exact BK597.out) hb); have n3_ := Aside0.mk (below_step (by repeat (first | (with_reducible first | exact HB.out | apply below_alloc | apply pw_below_drewN | apply below_drew1 | refine below_set ?_ GE595.out | refine below_set ?_ GE596.out | refine below_set ?_ GE597.out) | exact HB.out)) hb); clear BK595; clear BK596; clear BK597; clear HB; have BK595 := n0_; have BK596 := n1_; have BK597 := n2_; have HB := n3_; clear n0_ n1_ n2_ n3_; (try clear hb); (try clear hb2); (try clear hk); (try clear hi); have hnb87 := NB596_597.out; have hnc87 := NB597_596.out; obtain ⟨hcz88_0, hcz88_1, hcz88_2, hcz88_3, hcz88_4, hcz88_5, hfz88_0, hfz88_1, hfz88_2, hfz88_3, hfz88_4, hfz88_5⟩ := cells6 BK596.out; obtain ⟨hcz89_0, hcz89_1, hcz89_2, hcz89_3, hcz89_4, hcz89_5, hfz89_0, hfz89_1, hfz89_2, hfz89_3, hfz89_4, hfz89_5⟩ := cells6 BK595.out) | ((with_reducible refine gate_dst (N := 84) rfl ?_); (with_reducible refine gate_callee (f := 18) rfl ?_); refine goesL_ (some 84) rfl rfl Tryd.func18 (by kernel_rfl) rfl #[.agg #[.int .u64 a1_0, .int .u64 a1_1, .int .u64 a1_2, .int .i64 a1_3, .int .i64 a1_4, .bool a1_5], .int .u64 a0_2] rfl (by (try simp only [List.map_toArray, List.map_cons, List.map_nil]); first | done | rfl | (simp only [List.length_drop, List.length_take]; rfl)) ?_; (with_reducible refine (cap_Move.calls a1_0 a1_1 a1_2 a1_3 a1_4 a1_5 a0_2 t606 t607 t608 t609 t610 t611 _ A59.out).mono ?_); rintro e w90 ⟨rfl, hb⟩; refine ⟨_, rfl, ?_⟩; have n0_ := Aside0.mk (blk_below (g := gb595) (o := .cells #[.int .u64 a0_0, .int .u64 a0_1, .int .u64 a0_2, .int .i64 a0_3, .int .i64 a0_4, .bool a0_5] 24 (0, 0)) (by (with_reducible repeat (first | refine blk_drewN ?_ _ | refine blk_drew ?_ | refine blk_alloc ?_ _)); exact BK595.out) hb); have n1_ := Aside0.mk (blk_below (g := gb596) (o := .cells #[.int .u64 a1_0, .int .u64 a1_1, .int .u64 a1_2, .int .i64 a1_3, .int .i64 a1_4, .bool a1_5] 24 (0, 0)) (by (with_reducible repeat (first | refine blk_drewN ?_ _ | refine blk_drew ?_ | refine blk_alloc ?_ _)); exact BK596.out) hb); have n2_ := Aside0.mk (blk_below (g := gb597) (o := .cells #[.int .u64 a2_0, .int .u64 a2_1, .int .u64 a2_2, .int .i64 a2_3, .int .i64 a2_4, .bool a2_5] 24 (0, 0)) (by (with_reducible repeat (first | refine blk_drewN ?_ _ | refine blk_drew ?_ | refine blk_alloc ?_ _)); exact BK597.out) hb); have n3_ := Aside0.mk (below_step (by repeat (first | (with_reducible first | exact HB.out | apply below_alloc | apply pw_below_drewN | apply below_drew1 | refine below_set ?_ GE595.out | refine below_set ?_ GE596.out | refine below_set ?_ GE597.out) | exact HB.out)) hb); clear BK595; clear BK596; clear BK597; clear HB; have BK595 := n0_; have BK596 := n1_; have BK597 := n2_; have HB := n3_; clear n0_ n1_ n2_ n3_; (try clear hb); (try clear hb2); (try clear hk); (try clear hi)) | ((with_reducible refine gate_dst (N := 87) rfl ?_); (with_reducible refine gate_callee (f := 17) rfl ?_); refine goesL_ (some 87) rfl rfl Tryd.func17 (by kernel_rfl) rfl #[.agg #[.int .u64 t606, .int .u64 t607, .int .u64 t608, .int .i64 t609, .int .i64 t610, .bool t611], .int .u64 a3, .int .i64 a4] rfl (by (try simp only [List.map_toArray, List.map_cons, List.map_nil]); first | done | rfl | (simp only [List.length_drop, List.length_take]; rfl)) ?_; (with_reducible refine (cap_Check.calls t606 t607 t608 t609 t610 t611 a3 a4 t612 _ A60.out).mono ?_); rintro e w91 ⟨rfl, hb⟩; refine ⟨_, rfl, ?_⟩; have n0_ := Aside0.mk (blk_below (g := gb595) (o := .cells #[.int .u64 a0_0, .int .u64 a0_1, .int .u64 a0_2, .int .i64 a0_3, .int .i64 a0_4, .bool a0_5] 24 (0, 0)) (by (with_reducible repeat (first | refine blk_drewN ?_ _ | refine blk_drew ?_ | refine blk_alloc ?_ _)); exact BK595.out) hb); have n1_ := Aside0.mk (blk_below (g := gb596) (o := .cells #[.int .u64 a1_0, .int .u64 a1_1, .int .u64 a1_2, .int .i64 a1_3, .int .i64 a1_4, .bool a1_5] 24 (0, 0)) (by (with_reducible repeat (first | refine blk_drewN ?_ _ | refine blk_drew ?_ | refine blk_alloc ?_ _)); exact BK596.out) hb); have n2_ := Aside0.mk (blk_below (g := gb597) (o := .cells #[.int .u64 a2_0, .int .u64 a2_1, .int .u64 a2_2, .int .i64 a2_3, .int .i64 a2_4, .bool a2_5] 24 (0, 0)) (by (with_reducible repeat (first | refine blk_drewN ?_ _ | refine blk_drew ?_ | refine blk_alloc ?_ _)); exact BK597.out) hb); have n3_ := Aside0.mk (below_step (by repeat (first | (with_reducible first | exact HB.out | apply below_alloc | apply pw_below_drewN | apply below_drew1 | refine below_set ?_ GE595.out | refine below_set ?_ GE596.out | refine below_set ?_ GE597.out) | exact HB.out)) hb); clear BK595; clear BK596; clear BK597; clear HB; have BK595 := n0_; have BK596 := n1_; have BK597 := n2_; have HB := n3_; clear n0_ n1_ n2_ n3_; (try clear hb); (try clear hb2); (try clear hk); (try clear hi)))
                    go_ret
                    exact ⟨by first | rfl | (simp [errW_none, errW_some] <;> rfl) | (simp [*, errW_none, errW_some] <;> rfl), by repeat (first | (with_reducible first | exact HB.out | apply below_alloc | apply pw_below_drewN | apply below_drew1 | refine below_set ?_ GE595.out | refine below_set ?_ GE596.out | refine below_set ?_ GE597.out) | exact HB.out)⟩
                · replace c62 := Bool.eq_false_iff.mpr c62
                  subst c62
                  have H1 : (some true) = some r := by rw [if_neg (show ¬ (false = true) by decide)] at H; exact H
                  clear H
                  have H := H1
                  clear H1
                  obtain rfl := Option.some.inj H
                  have hnb92 := NB595_596.out
                  have hnc92 := NB596_595.out
                  have hnb93 := NB595_597.out
                  have hnc93 := NB597_595.out
                  have hcz94_0 : wc.cell? ⟨gb595, 0, none⟩ = some (.int .u64 a0_0) := (blk_cell BK595.out 0).trans rfl
                  have hcz94_1 : wc.cell? ⟨gb595, 1, none⟩ = some (.int .u64 a0_1) := (blk_cell BK595.out 1).trans rfl
                  have hcz94_2 : wc.cell? ⟨gb595, 2, none⟩ = some (.int .u64 a0_2) := (blk_cell BK595.out 2).trans rfl
                  have hcz94_3 : wc.cell? ⟨gb595, 3, none⟩ = some (.int .i64 a0_3) := (blk_cell BK595.out 3).trans rfl
                  have hcz94_4 : wc.cell? ⟨gb595, 4, none⟩ = some (.int .i64 a0_4) := (blk_cell BK595.out 4).trans rfl
                  have hcz94_5 : wc.cell? ⟨gb595, 5, none⟩ = some (.bool a0_5) := (blk_cell BK595.out 5).trans rfl
                  have hfz94_0 := blk_frozen BK595.out 0
                  have hfz94_1 := blk_frozen BK595.out 1
                  have hfz94_2 := blk_frozen BK595.out 2
                  have hfz94_3 := blk_frozen BK595.out 3
                  have hfz94_4 := blk_frozen BK595.out 4
                  have hfz94_5 := blk_frozen BK595.out 5
                  go_wp2_with (first | ((with_reducible refine gate_dst (N := 80) rfl ?_); (with_reducible refine gate_callee (f := 17) rfl ?_); refine goesL_ (some 80) rfl rfl Tryd.func17 (by kernel_rfl) rfl #[.agg #[.int .u64 a0_0, .int .u64 a0_1, .int .u64 a0_2, .int .i64 a0_3, .int .i64 a0_4, .bool a0_5], .int .u64 a3, .int .i64 a4] rfl (by (try simp only [List.map_toArray, List.map_cons, List.map_nil]); first | done | rfl | (simp only [List.length_drop, List.length_take]; rfl)) ?_; (with_reducible refine (cap_Check.calls a0_0 a0_1 a0_2 a0_3 a0_4 a0_5 a3 a4 t605 _ A58.out).mono ?_); rintro e w95 ⟨rfl, hb⟩; refine ⟨_, rfl, ?_⟩; have n0_ := Aside0.mk (blk_below (g := gb595) (o := .cells #[.int .u64 a0_0, .int .u64 a0_1, .int .u64 a0_2, .int .i64 a0_3, .int .i64 a0_4, .bool a0_5] 24 (0, 0)) (by (with_reducible repeat (first | refine blk_drewN ?_ _ | refine blk_drew ?_ | refine blk_alloc ?_ _)); exact BK595.out) hb); have n1_ := Aside0.mk (blk_below (g := gb596) (o := .cells #[.int .u64 a1_0, .int .u64 a1_1, .int .u64 a1_2, .int .i64 a1_3, .int .i64 a1_4, .bool a1_5] 24 (0, 0)) (by (with_reducible repeat (first | refine blk_drewN ?_ _ | refine blk_drew ?_ | refine blk_alloc ?_ _)); exact BK596.out) hb); have n2_ := Aside0.mk (blk_below (g := gb597) (o := .cells #[.int .u64 a2_0, .int .u64 a2_1, .int .u64 a2_2, .int .i64 a2_3, .int .i64 a2_4, .bool a2_5] 24 (0, 0)) (by (with_reducible repeat (first | refine blk_drewN ?_ _ | refine blk_drew ?_ | refine blk_alloc ?_ _)); exact BK597.out) hb); have n3_ := Aside0.mk (below_step (by repeat (first | (with_reducible first | exact HB.out | apply below_alloc | apply pw_below_drewN | apply below_drew1 | refine below_set ?_ GE595.out | refine below_set ?_ GE596.out | refine below_set ?_ GE597.out) | exact HB.out)) hb); clear BK595; clear BK596; clear BK597; clear HB; have BK595 := n0_; have BK596 := n1_; have BK597 := n2_; have HB := n3_; clear n0_ n1_ n2_ n3_; (try clear hb); (try clear hb2); (try clear hk); (try clear hi); have hnb96 := NB596_597.out; have hnc96 := NB597_596.out; obtain ⟨hcz97_0, hcz97_1, hcz97_2, hcz97_3, hcz97_4, hcz97_5, hfz97_0, hfz97_1, hfz97_2, hfz97_3, hfz97_4, hfz97_5⟩ := cells6 BK596.out; obtain ⟨hcz98_0, hcz98_1, hcz98_2, hcz98_3, hcz98_4, hcz98_5, hfz98_0, hfz98_1, hfz98_2, hfz98_3, hfz98_4, hfz98_5⟩ := cells6 BK595.out) | ((with_reducible refine gate_dst (N := 84) rfl ?_); (with_reducible refine gate_callee (f := 18) rfl ?_); refine goesL_ (some 84) rfl rfl Tryd.func18 (by kernel_rfl) rfl #[.agg #[.int .u64 a1_0, .int .u64 a1_1, .int .u64 a1_2, .int .i64 a1_3, .int .i64 a1_4, .bool a1_5], .int .u64 a0_2] rfl (by (try simp only [List.map_toArray, List.map_cons, List.map_nil]); first | done | rfl | (simp only [List.length_drop, List.length_take]; rfl)) ?_; (with_reducible refine (cap_Move.calls a1_0 a1_1 a1_2 a1_3 a1_4 a1_5 a0_2 t606 t607 t608 t609 t610 t611 _ A59.out).mono ?_); rintro e w99 ⟨rfl, hb⟩; refine ⟨_, rfl, ?_⟩; have n0_ := Aside0.mk (blk_below (g := gb595) (o := .cells #[.int .u64 a0_0, .int .u64 a0_1, .int .u64 a0_2, .int .i64 a0_3, .int .i64 a0_4, .bool a0_5] 24 (0, 0)) (by (with_reducible repeat (first | refine blk_drewN ?_ _ | refine blk_drew ?_ | refine blk_alloc ?_ _)); exact BK595.out) hb); have n1_ := Aside0.mk (blk_below (g := gb596) (o := .cells #[.int .u64 a1_0, .int .u64 a1_1, .int .u64 a1_2, .int .i64 a1_3, .int .i64 a1_4, .bool a1_5] 24 (0, 0)) (by (with_reducible repeat (first | refine blk_drewN ?_ _ | refine blk_drew ?_ | refine blk_alloc ?_ _)); exact BK596.out) hb); have n2_ := Aside0.mk (blk_below (g := gb597) (o := .cells #[.int .u64 a2_0, .int .u64 a2_1, .int .u64 a2_2, .int .i64 a2_3, .int .i64 a2_4, .bool a2_5] 24 (0, 0)) (by (with_reducible repeat (first | refine blk_drewN ?_ _ | refine blk_drew ?_ | refine blk_alloc ?_ _)); exact BK597.out) hb); have n3_ := Aside0.mk (below_step (by repeat (first | (with_reducible first | exact HB.out | apply below_alloc | apply pw_below_drewN | apply below_drew1 | refine below_set ?_ GE595.out | refine below_set ?_ GE596.out | refine below_set ?_ GE597.out) | exact HB.out)) hb); clear BK595; clear BK596; clear BK597; clear HB; have BK595 := n0_; have BK596 := n1_; have BK597 := n2_; have HB := n3_; clear n0_ n1_ n2_ n3_; (try clear hb); (try clear hb2); (try clear hk); (try clear hi)) | ((with_reducible refine gate_dst (N := 87) rfl ?_); (with_reducible refine gate_callee (f := 17) rfl ?_); refine goesL_ (some 87) rfl rfl Tryd.func17 (by kernel_rfl) rfl #[.agg #[.int .u64 t606, .int .u64 t607, .int .u64 t608, .int .i64 t609, .int .i64 t610, .bool t611], .int .u64 a3, .int .i64 a4] rfl (by (try simp only [List.map_toArray, List.map_cons, List.map_nil]); first | done | rfl | (simp only [List.length_drop, List.length_take]; rfl)) ?_; (with_reducible refine (cap_Check.calls t606 t607 t608 t609 t610 t611 a3 a4 t612 _ A60.out).mono ?_); rintro e w100 ⟨rfl, hb⟩; refine ⟨_, rfl, ?_⟩; have n0_ := Aside0.mk (blk_below (g := gb595) (o := .cells #[.int .u64 a0_0, .int .u64 a0_1, .int .u64 a0_2, .int .i64 a0_3, .int .i64 a0_4, .bool a0_5] 24 (0, 0)) (by (with_reducible repeat (first | refine blk_drewN ?_ _ | refine blk_drew ?_ | refine blk_alloc ?_ _)); exact BK595.out) hb); have n1_ := Aside0.mk (blk_below (g := gb596) (o := .cells #[.int .u64 a1_0, .int .u64 a1_1, .int .u64 a1_2, .int .i64 a1_3, .int .i64 a1_4, .bool a1_5] 24 (0, 0)) (by (with_reducible repeat (first | refine blk_drewN ?_ _ | refine blk_drew ?_ | refine blk_alloc ?_ _)); exact BK596.out) hb); have n2_ := Aside0.mk (blk_below (g := gb597) (o := .cells #[.int .u64 a2_0, .int .u64 a2_1, .int .u64 a2_2, .int .i64 a2_3, .int .i64 a2_4, .bool a2_5] 24 (0, 0)) (by (with_reducible repeat (first | refine blk_drewN ?_ _ | refine blk_drew ?_ | refine blk_alloc ?_ _)); exact BK597.out) hb); have n3_ := Aside0.mk (below_step (by repeat (first | (with_reducible first | exact HB.out | apply below_alloc | apply pw_below_drewN | apply below_drew1 | refine below_set ?_ GE595.out | refine below_set ?_ GE596.out | refine below_set ?_ GE597.out) | exact HB.out)) hb); clear BK595; clear BK596; clear BK597; clear HB; have BK595 := n0_; have BK596 := n1_; have BK597 := n2_; have HB := n3_; clear n0_ n1_ n2_ n3_; (try clear hb); (try clear hb2); (try clear hk); (try clear hi)))
                  go_ret
                  exact ⟨by first | rfl | (simp [errW_none, errW_some] <;> rfl) | (simp [*, errW_none, errW_some] <;> rfl), by repeat (first | (with_reducible first | exact HB.out | apply below_alloc | apply pw_below_drewN | apply below_drew1 | refine below_set ?_ GE595.out | refine below_set ?_ GE596.out | refine below_set ?_ GE597.out) | exact HB.out)⟩
              · replace c61 := Bool.eq_false_iff.mpr c61
                subst c61
                have H1 : (some false) = some r := by rw [if_neg (show ¬ (false = true) by decide)] at H; exact H
                clear H
                have H := H1
                clear H1
                exact absurd ((Option.some.inj H).trans HT.out) (by decide)

end Go.Proofs.YtafpkpalkaphkaaDoor.P
