/- What functions of the program, and of its laws, give, each proved of its code by a walk; no condition. -/
import Derived.Test.YtafpkpalkaphkaaDoorKCapMakesPx0
import Derived.Test.YtafpkpalkaphkaaDoorKCapMakesPx1
import Derived.Test.YtafpkpalkaphkaaDoorKCapMakesPx3
import Derived.Test.YtafpkpalkaphkaaDoorKCapMakesPx4
import Derived.Test.YtafpkpalkaphkaaDoorKCapMakesPx6
import Derived.Test.YtafpkpalkaphkaaDoorKCapMakesPx7
import Derived.Test.YtafpkpalkaphkaaDoorKCapMakesPx8
import Derived.Test.YtafpkpalkaphkaaDoorKCapMakesPx9
import Derived.Test.YtafpkpalkaphkaaDoorKCapMakesPx10
import Derived.Test.YtafpkpalkaphkaaDoorKCapMakesPx11
namespace Go.Proofs.YtafpkpalkaphkaaDoor.P
open Go.RowKit Go.Proofs.YtafpkpalkaphkaaDoorW.PrintWords Go.Proofs.YtafpkpalkaphkaaDoorW.PrintLast Go.Proofs.YtafpkpalkaphkaaDoorW.PrintMore
attribute [local go_sem] max2_int min2_int max_two min_two max_three min_three max_four min_four   -- for this text's walks alone
set_option linter.unusedVariables false
set_option linter.unusedSimpArgs false

attribute [local go_sem high] eqA24
def curtilagelaw02_CapMakes.j0 : Nat → Int → Int → Bool → Bool → Bool → Int → Int → Int → Int → Int → Bool → Option (Bool)
  | 0, _, _, _, _, _, _, _, _, _, _, _ => none
  | k + 1, x1, x2, x7, x8, x38, x473000, x473001, x473002, x473003, x473004, x473005 => if x38 = true then (some false) else (if x8 = true then ((cap_Move.f x473000 x473001 x473002 x473003 x473004 x473005 x1).bind fun bt514 => ((cap_Bound.f x473000 x473001 x473002 x473003 x473004 x473005 x1).bind fun bt521 => ((cap_And.f x473000 x473001 x473002 x473003 x473004 x473005 x2).bind fun bt528 => ((cap_Clear.f x473000 x473001 x473002 x473003 x473004 x473005).bind fun bt535 => (if x7 = true then ((curtilageref02_Move.f x473000 x473001 x473002 x473003 x473004 x473005 x1).bind fun bt542 => (if (bt514.1 == bt542.1 && (bt514.2.1 == bt542.2.1 && (bt514.2.2.1 == bt542.2.2.1 && (bt514.2.2.2.1 == bt542.2.2.2.1 && (bt514.2.2.2.2.1 == bt542.2.2.2.2.1 && (bt514.2.2.2.2.2 == bt542.2.2.2.2.2)))))) = true then ((curtilageref02_Bound.f x473000 x473001 x473002 x473003 x473004 x473005 x1).bind fun bt548 => (if (bt521.1 == bt548.1 && (bt521.2.1 == bt548.2.1 && (bt521.2.2.1 == bt548.2.2.1 && (bt521.2.2.2.1 == bt548.2.2.2.1 && (bt521.2.2.2.2.1 == bt548.2.2.2.2.1 && (bt521.2.2.2.2.2 == bt548.2.2.2.2.2)))))) = true then ((curtilageref02_And.f k x473000 x473001 x473002 x473003 x473004 x473005 x2).bind fun bt554 => (if (bt528.1 == bt554.1 && (bt528.2.1 == bt554.2.1 && (bt528.2.2.1 == bt554.2.2.1 && (bt528.2.2.2.1 == bt554.2.2.2.1 && (bt528.2.2.2.2.1 == bt554.2.2.2.2.1 && (bt528.2.2.2.2.2 == bt554.2.2.2.2.2)))))) = true then ((curtilageref02_Clear.f x473000 x473001 x473002 x473003 x473004 x473005).bind fun bt560 => (some (bt535.1 == bt560.1 && (bt535.2.1 == bt560.2.1 && (bt535.2.2.1 == bt560.2.2.1 && (bt535.2.2.2.1 == bt560.2.2.2.1 && (bt535.2.2.2.2.1 == bt560.2.2.2.2.1 && (bt535.2.2.2.2.2 == bt560.2.2.2.2.2)))))))) else (some false))) else (some false))) else (some false))) else (some false)))))) else (some x7))
def curtilagelaw02_CapMakes.f (k : Nat) (a0_0 : Int) (a0_1 : Int) (a0_2 : Int) (a0_3 : Int) (a0_4 : Int) (a0_5 : Bool) (a1 : Int) (a2 : Int) : Option (Bool) := (curtilagelaw02_awake.f k).bind fun t473 => ((curtilageref02_Right.f a0_0 a0_1 a0_2 a0_3 a0_4 a0_5).bind fun t474 => ((cap_Int.f a1).bind fun bt475 => ((cap_Null.f).bind fun bt482 => ((cap_Root.f a1).bind fun bt489 => ((curtilageref02_Int.f a1).bind fun bt496 => (if (!(bt475.1 == bt496.1) || (!(bt475.2.1 == bt496.2.1) || (!(bt475.2.2.1 == bt496.2.2.1) || (!(bt475.2.2.2.1 == bt496.2.2.2.1) || (!(bt475.2.2.2.2.1 == bt496.2.2.2.2.1) || (!(bt475.2.2.2.2.2 == bt496.2.2.2.2.2))))))) = true then (curtilagelaw02_CapMakes.j0 k a1 a2 t473 t474 true a0_0 a0_1 a0_2 a0_3 a0_4 a0_5) else ((curtilageref02_Int.f 0).bind fun bt502 => (if (!(bt482.1 == bt502.1) || (!(bt482.2.1 == bt502.2.1) || (!(bt482.2.2.1 == bt502.2.2.1) || (!(bt482.2.2.2.1 == bt502.2.2.2.1) || (!(bt482.2.2.2.2.1 == bt502.2.2.2.2.1) || (!(bt482.2.2.2.2.2 == bt502.2.2.2.2.2))))))) = true then (curtilagelaw02_CapMakes.j0 k a1 a2 t473 t474 true a0_0 a0_1 a0_2 a0_3 a0_4 a0_5) else ((curtilageref02_Root.f a1).bind fun bt508 => (curtilagelaw02_CapMakes.j0 k a1 a2 t473 t474 (!(bt489.1 == bt508.1) || (!(bt489.2.1 == bt508.2.1) || (!(bt489.2.2.1 == bt508.2.2.1) || (!(bt489.2.2.2.1 == bt508.2.2.2.1) || (!(bt489.2.2.2.2.1 == bt508.2.2.2.2.1) || (!(bt489.2.2.2.2.2 == bt508.2.2.2.2.2))))))) a0_0 a0_1 a0_2 a0_3 a0_4 a0_5))))))))))
theorem curtilagelaw02_CapMakes.mono_l : ∀ k, (∀ y0 y1 y2 y3 y4 y5 y6 y7 y8 y9 y10, LeO (curtilagelaw02_CapMakes.j0 k y0 y1 y2 y3 y4 y5 y6 y7 y8 y9 y10) (curtilagelaw02_CapMakes.j0 (k + 1) y0 y1 y2 y3 y4 y5 y6 y7 y8 y9 y10))
  | 0 => fun _ _ _ _ _ _ _ _ _ _ _ r h => by simp [curtilagelaw02_CapMakes.j0] at h
  | k + 1 => by
    have ih0 := curtilagelaw02_CapMakes.mono_l k
    · intro y0 y1 y2 y3 y4 y5 y6 y7 y8 y9 y10
      unfold curtilagelaw02_CapMakes.j0
      repeat' first
      | (with_reducible exact ih0 _ _ _ _ _ _ _ _ _ _ _)
      | (with_reducible exact curtilagelaw02_awake.mono _)
      | (with_reducible exact curtilageref02_And.mono _ _ _ _ _ _ _ _)
      | (with_reducible exact LeO.refl _)
      | (with_reducible exact LeO.none _)
      | (with_reducible refine LeO.ite ?_ ?_)
      | (with_reducible refine LeO.bind ?_ (fun _ => ?_))
      | exact ih0 _ _ _ _ _ _ _ _ _ _ _
      | exact curtilagelaw02_awake.mono _
      | exact curtilageref02_And.mono _ _ _ _ _ _ _ _
      | exact LeO.none _
      | refine LeO.ite ?_ ?_
      | refine LeO.bind ?_ (fun _ => ?_)
theorem curtilagelaw02_CapMakes.mono : ∀ a0 a1 a2 a3 a4 a5 a6 a7 k, LeO (curtilagelaw02_CapMakes.f k a0 a1 a2 a3 a4 a5 a6 a7) (curtilagelaw02_CapMakes.f (k + 1) a0 a1 a2 a3 a4 a5 a6 a7) := by
  intro a0 a1 a2 a3 a4 a5 a6 a7 k
  have ih0 := curtilagelaw02_CapMakes.mono_l k
  unfold curtilagelaw02_CapMakes.f
  repeat' first
      | (with_reducible exact ih0 _ _ _ _ _ _ _ _ _ _ _)
      | (with_reducible exact curtilagelaw02_awake.mono _)
      | (with_reducible exact curtilageref02_And.mono _ _ _ _ _ _ _ _)
      | (with_reducible exact LeO.refl _)
      | (with_reducible exact LeO.none _)
      | (with_reducible refine LeO.ite ?_ ?_)
      | (with_reducible refine LeO.bind ?_ (fun _ => ?_))
      | exact ih0 _ _ _ _ _ _ _ _ _ _ _
      | exact curtilagelaw02_awake.mono _
      | exact curtilageref02_And.mono _ _ _ _ _ _ _ _
      | exact LeO.none _
      | refine LeO.ite ?_ ?_
      | refine LeO.bind ?_ (fun _ => ?_)
def curtilagelaw02_CapMakes.T6 : Bool × List (List Nat × List Nat) := (true, [([], []), ([], []), ([1], [1]), ([0, 2], [0, 2]), ([3, 2], [3]), ([4], [4]), ([4, 4], [4]), ([5, 6, 4], [4, 5, 6]), ([4, 7], [4, 7]), ([8, 6], [8]), ([9], [9]), ([9], [9]), ([11, 9, 9], [9, 11]), ([10, 12, 9], [9, 10, 12]), ([9, 13], [9, 13])])
def curtilagelaw02_CapMakes.B6 : List Nat := [0, 0, 2, 7, 15, 31, 31, 127, 255, 511, 1023, 1023, 3071, 8191, 16383]
theorem curtilagelaw02_CapMakes.tab6 : rtab .any (opsOf Tryd.f6 6) = curtilagelaw02_CapMakes.T6 := by kernel_rfl
theorem curtilagelaw02_CapMakes.bits6 : waitsOk curtilagelaw02_CapMakes.T6.2 curtilagelaw02_CapMakes.B6 = true := by kernel_rfl
def curtilagelaw02_CapMakes.T14 : Bool × List (List Nat × List Nat) := (true, [([], []), ([0], [0]), ([1], [1]), ([1], [1]), ([1], [1]), ([3, 4, 1, 1], [1, 3, 4]), ([2, 5, 1], [1, 2, 5]), ([1, 6], [1, 6]), ([7, 5], [7]), ([8], [8]), ([8], [8]), ([8], [8]), ([10, 11, 8, 8], [8, 10, 11]), ([9, 12, 8], [8, 9, 12]), ([8, 13], [8, 13]), ([14, 12], [14]), ([15], [15]), ([15], [15]), ([15], [15]), ([17, 18, 15, 15], [15, 17, 18]), ([16, 19, 15], [15, 16, 19]), ([15, 20], [15, 20]), ([21, 19], [21]), ([22], [22]), ([22], [22]), ([24, 22, 22], [22, 24]), ([23, 25, 22], [22, 23, 25]), ([22, 26], [22, 26]), ([27, 25, 0, 1, 2, 3, 4, 5, 6, 7, 8, 9, 10, 11, 12, 13, 14, 15, 16, 17, 18, 19, 20, 21, 22, 23, 24, 25, 26, 27], [27])])
def curtilagelaw02_CapMakes.B14 : List Nat := [0, 1, 3, 3, 3, 27, 63, 127, 255, 511, 511, 511, 3583, 8191, 16383, 32767, 65535, 65535, 65535, 458751, 1048575, 2097151, 4194303, 8388607, 8388607, 25165823, 67108863, 134217727, 268435455]
theorem curtilagelaw02_CapMakes.tab14 : rtab .any (opsOf Tryd.f6 14) = curtilagelaw02_CapMakes.T14 := by kernel_rfl
theorem curtilagelaw02_CapMakes.bits14 : waitsOk curtilagelaw02_CapMakes.T14.2 curtilagelaw02_CapMakes.B14 = true := by kernel_rfl
set_option maxHeartbeats 8000000 in
set_option maxRecDepth 100000 in
theorem curtilagelaw02_CapMakes.calls (k : Nat) (a0_0 : Int) (a0_1 : Int) (a0_2 : Int) (a0_3 : Int) (a0_4 : Int) (a0_5 : Bool) (a1 : Int) (a2 : Int) (r : Bool) (w : World) (h : curtilagelaw02_CapMakes.f k a0_0 a0_1 a0_2 a0_3 a0_4 a0_5 a1 a2 = some r) (htab : Lib.TabIs Tryd.prog w "internal/strconv.uint64pow10" .u64 Lib.pow10Tab) (hr0 : r = true) :
    Calls Tryd.prog 6 #[.agg #[.int .u64 a0_0, .int .u64 a0_1, .int .u64 a0_2, .int .i64 a0_3, .int .i64 a0_4, .bool a0_5], .int .u64 a1, .int .i64 a2] w fun e w' => e = .returned (.bool r) ∧ Below w.heap.size w w' := by
  have HT := Aside0.mk hr0
  clear hr0
  have HTAB := Aside0.mk (Lib.tabBelow_of_tabIs htab)
  clear htab
  have hu24 := Tryd.underlying24
  have HB := Aside0.mk (Below.refl w.heap.size w)
  have H : ((curtilagelaw02_awake.f k).bind fun t473 => ((curtilageref02_Right.f a0_0 a0_1 a0_2 a0_3 a0_4 a0_5).bind fun t474 => ((cap_Int.f a1).bind fun bt475 => ((cap_Null.f).bind fun bt482 => ((cap_Root.f a1).bind fun bt489 => ((curtilageref02_Int.f a1).bind fun bt496 => (if (!(bt475.1 == bt496.1) || (!(bt475.2.1 == bt496.2.1) || (!(bt475.2.2.1 == bt496.2.2.1) || (!(bt475.2.2.2.1 == bt496.2.2.2.1) || (!(bt475.2.2.2.2.1 == bt496.2.2.2.2.1) || (!(bt475.2.2.2.2.2 == bt496.2.2.2.2.2))))))) = true then (curtilagelaw02_CapMakes.j0 k a1 a2 t473 t474 true a0_0 a0_1 a0_2 a0_3 a0_4 a0_5) else ((curtilageref02_Int.f 0).bind fun bt502 => (if (!(bt482.1 == bt502.1) || (!(bt482.2.1 == bt502.2.1) || (!(bt482.2.2.1 == bt502.2.2.1) || (!(bt482.2.2.2.1 == bt502.2.2.2.1) || (!(bt482.2.2.2.2.1 == bt502.2.2.2.2.1) || (!(bt482.2.2.2.2.2 == bt502.2.2.2.2.2))))))) = true then (curtilagelaw02_CapMakes.j0 k a1 a2 t473 t474 true a0_0 a0_1 a0_2 a0_3 a0_4 a0_5) else ((curtilageref02_Root.f a1).bind fun bt508 => (curtilagelaw02_CapMakes.j0 k a1 a2 t473 t474 (!(bt489.1 == bt508.1) || (!(bt489.2.1 == bt508.2.1) || (!(bt489.2.2.1 == bt508.2.2.1) || (!(bt489.2.2.2.1 == bt508.2.2.2.1) || (!(bt489.2.2.2.2.1 == bt508.2.2.2.2.1) || (!(bt489.2.2.2.2.2 == bt508.2.2.2.2.2))))))) a0_0 a0_1 a0_2 a0_3 a0_4 a0_5))))))))))) = some r := h
  clear h
  replace H := Option.bind_eq_some_iff.mp H
  obtain ⟨t473, A40, H⟩ := H
  replace H : ((curtilageref02_Right.f a0_0 a0_1 a0_2 a0_3 a0_4 a0_5).bind fun t474 => ((cap_Int.f a1).bind fun bt475 => ((cap_Null.f).bind fun bt482 => ((cap_Root.f a1).bind fun bt489 => ((curtilageref02_Int.f a1).bind fun bt496 => (if (!(bt475.1 == bt496.1) || (!(bt475.2.1 == bt496.2.1) || (!(bt475.2.2.1 == bt496.2.2.1) || (!(bt475.2.2.2.1 == bt496.2.2.2.1) || (!(bt475.2.2.2.2.1 == bt496.2.2.2.2.1) || (!(bt475.2.2.2.2.2 == bt496.2.2.2.2.2))))))) = true then (curtilagelaw02_CapMakes.j0 k a1 a2 t473 t474 true a0_0 a0_1 a0_2 a0_3 a0_4 a0_5) else ((curtilageref02_Int.f 0).bind fun bt502 => (if (!(bt482.1 == bt502.1) || (!(bt482.2.1 == bt502.2.1) || (!(bt482.2.2.1 == bt502.2.2.1) || (!(bt482.2.2.2.1 == bt502.2.2.2.1) || (!(bt482.2.2.2.2.1 == bt502.2.2.2.2.1) || (!(bt482.2.2.2.2.2 == bt502.2.2.2.2.2))))))) = true then (curtilagelaw02_CapMakes.j0 k a1 a2 t473 t474 true a0_0 a0_1 a0_2 a0_3 a0_4 a0_5) else ((curtilageref02_Root.f a1).bind fun bt508 => (curtilagelaw02_CapMakes.j0 k a1 a2 t473 t474 (!(bt489.1 == bt508.1) || (!(bt489.2.1 == bt508.2.1) || (!(bt489.2.2.1 == bt508.2.2.1) || (!(bt489.2.2.2.1 == bt508.2.2.2.1) || (!(bt489.2.2.2.2.1 == bt508.2.2.2.2.1) || (!(bt489.2.2.2.2.2 == bt508.2.2.2.2.2))))))) a0_0 a0_1 a0_2 a0_3 a0_4 a0_5)))))))))) = some r := H
  have A4 := Aside0.mk A40
  clear A40
  replace H := Option.bind_eq_some_iff.mp H
  obtain ⟨t474, A50, H⟩ := H
  replace H : ((cap_Int.f a1).bind fun bt475 => ((cap_Null.f).bind fun bt482 => ((cap_Root.f a1).bind fun bt489 => ((curtilageref02_Int.f a1).bind fun bt496 => (if (!(bt475.1 == bt496.1) || (!(bt475.2.1 == bt496.2.1) || (!(bt475.2.2.1 == bt496.2.2.1) || (!(bt475.2.2.2.1 == bt496.2.2.2.1) || (!(bt475.2.2.2.2.1 == bt496.2.2.2.2.1) || (!(bt475.2.2.2.2.2 == bt496.2.2.2.2.2))))))) = true then (curtilagelaw02_CapMakes.j0 k a1 a2 t473 t474 true a0_0 a0_1 a0_2 a0_3 a0_4 a0_5) else ((curtilageref02_Int.f 0).bind fun bt502 => (if (!(bt482.1 == bt502.1) || (!(bt482.2.1 == bt502.2.1) || (!(bt482.2.2.1 == bt502.2.2.1) || (!(bt482.2.2.2.1 == bt502.2.2.2.1) || (!(bt482.2.2.2.2.1 == bt502.2.2.2.2.1) || (!(bt482.2.2.2.2.2 == bt502.2.2.2.2.2))))))) = true then (curtilagelaw02_CapMakes.j0 k a1 a2 t473 t474 true a0_0 a0_1 a0_2 a0_3 a0_4 a0_5) else ((curtilageref02_Root.f a1).bind fun bt508 => (curtilagelaw02_CapMakes.j0 k a1 a2 t473 t474 (!(bt489.1 == bt508.1) || (!(bt489.2.1 == bt508.2.1) || (!(bt489.2.2.1 == bt508.2.2.1) || (!(bt489.2.2.2.1 == bt508.2.2.2.1) || (!(bt489.2.2.2.2.1 == bt508.2.2.2.2.1) || (!(bt489.2.2.2.2.2 == bt508.2.2.2.2.2))))))) a0_0 a0_1 a0_2 a0_3 a0_4 a0_5))))))))) = some r := H
  have A5 := Aside0.mk A50
  clear A50
  replace H := Option.bind_eq_some_iff.mp H
  obtain ⟨⟨t475, t476, t477, t478, t479, t480⟩, A60, H⟩ := H
  replace H : ((cap_Null.f).bind fun bt482 => ((cap_Root.f a1).bind fun bt489 => ((curtilageref02_Int.f a1).bind fun bt496 => (if (!(t475 == bt496.1) || (!(t476 == bt496.2.1) || (!(t477 == bt496.2.2.1) || (!(t478 == bt496.2.2.2.1) || (!(t479 == bt496.2.2.2.2.1) || (!(t480 == bt496.2.2.2.2.2))))))) = true then (curtilagelaw02_CapMakes.j0 k a1 a2 t473 t474 true a0_0 a0_1 a0_2 a0_3 a0_4 a0_5) else ((curtilageref02_Int.f 0).bind fun bt502 => (if (!(bt482.1 == bt502.1) || (!(bt482.2.1 == bt502.2.1) || (!(bt482.2.2.1 == bt502.2.2.1) || (!(bt482.2.2.2.1 == bt502.2.2.2.1) || (!(bt482.2.2.2.2.1 == bt502.2.2.2.2.1) || (!(bt482.2.2.2.2.2 == bt502.2.2.2.2.2))))))) = true then (curtilagelaw02_CapMakes.j0 k a1 a2 t473 t474 true a0_0 a0_1 a0_2 a0_3 a0_4 a0_5) else ((curtilageref02_Root.f a1).bind fun bt508 => (curtilagelaw02_CapMakes.j0 k a1 a2 t473 t474 (!(bt489.1 == bt508.1) || (!(bt489.2.1 == bt508.2.1) || (!(bt489.2.2.1 == bt508.2.2.1) || (!(bt489.2.2.2.1 == bt508.2.2.2.1) || (!(bt489.2.2.2.2.1 == bt508.2.2.2.2.1) || (!(bt489.2.2.2.2.2 == bt508.2.2.2.2.2))))))) a0_0 a0_1 a0_2 a0_3 a0_4 a0_5)))))))) = some r := H
  have A6 := Aside0.mk A60
  clear A60
  replace H := Option.bind_eq_some_iff.mp H
  obtain ⟨⟨t482, t483, t484, t485, t486, t487⟩, A70, H⟩ := H
  replace H : ((cap_Root.f a1).bind fun bt489 => ((curtilageref02_Int.f a1).bind fun bt496 => (if (!(t475 == bt496.1) || (!(t476 == bt496.2.1) || (!(t477 == bt496.2.2.1) || (!(t478 == bt496.2.2.2.1) || (!(t479 == bt496.2.2.2.2.1) || (!(t480 == bt496.2.2.2.2.2))))))) = true then (curtilagelaw02_CapMakes.j0 k a1 a2 t473 t474 true a0_0 a0_1 a0_2 a0_3 a0_4 a0_5) else ((curtilageref02_Int.f 0).bind fun bt502 => (if (!(t482 == bt502.1) || (!(t483 == bt502.2.1) || (!(t484 == bt502.2.2.1) || (!(t485 == bt502.2.2.2.1) || (!(t486 == bt502.2.2.2.2.1) || (!(t487 == bt502.2.2.2.2.2))))))) = true then (curtilagelaw02_CapMakes.j0 k a1 a2 t473 t474 true a0_0 a0_1 a0_2 a0_3 a0_4 a0_5) else ((curtilageref02_Root.f a1).bind fun bt508 => (curtilagelaw02_CapMakes.j0 k a1 a2 t473 t474 (!(bt489.1 == bt508.1) || (!(bt489.2.1 == bt508.2.1) || (!(bt489.2.2.1 == bt508.2.2.1) || (!(bt489.2.2.2.1 == bt508.2.2.2.1) || (!(bt489.2.2.2.2.1 == bt508.2.2.2.2.1) || (!(bt489.2.2.2.2.2 == bt508.2.2.2.2.2))))))) a0_0 a0_1 a0_2 a0_3 a0_4 a0_5))))))) = some r := H
  have A7 := Aside0.mk A70
  clear A70
  replace H := Option.bind_eq_some_iff.mp H
  obtain ⟨⟨t489, t490, t491, t492, t493, t494⟩, A80, H⟩ := H
  replace H : ((curtilageref02_Int.f a1).bind fun bt496 => (if (!(t475 == bt496.1) || (!(t476 == bt496.2.1) || (!(t477 == bt496.2.2.1) || (!(t478 == bt496.2.2.2.1) || (!(t479 == bt496.2.2.2.2.1) || (!(t480 == bt496.2.2.2.2.2))))))) = true then (curtilagelaw02_CapMakes.j0 k a1 a2 t473 t474 true a0_0 a0_1 a0_2 a0_3 a0_4 a0_5) else ((curtilageref02_Int.f 0).bind fun bt502 => (if (!(t482 == bt502.1) || (!(t483 == bt502.2.1) || (!(t484 == bt502.2.2.1) || (!(t485 == bt502.2.2.2.1) || (!(t486 == bt502.2.2.2.2.1) || (!(t487 == bt502.2.2.2.2.2))))))) = true then (curtilagelaw02_CapMakes.j0 k a1 a2 t473 t474 true a0_0 a0_1 a0_2 a0_3 a0_4 a0_5) else ((curtilageref02_Root.f a1).bind fun bt508 => (curtilagelaw02_CapMakes.j0 k a1 a2 t473 t474 (!(t489 == bt508.1) || (!(t490 == bt508.2.1) || (!(t491 == bt508.2.2.1) || (!(t492 == bt508.2.2.2.1) || (!(t493 == bt508.2.2.2.2.1) || (!(t494 == bt508.2.2.2.2.2))))))) a0_0 a0_1 a0_2 a0_3 a0_4 a0_5)))))) = some r := H
  have A8 := Aside0.mk A80
  clear A80
  have HC9 := Aside0.mk H
  clear H
  go_enter Tryd.func6, Tryd.ntmps6
  go_upto_region 6 with (first | ((with_reducible refine gate_dst (N := 3) rfl ?_); refine box_event ?hg (N := 3) ?hd (cs := #[.int .u64 a0_0, .int .u64 a0_1, .int .u64 a0_2, .int .i64 a0_3, .int .i64 a0_4, .bool a0_5]) (t := 24) ?hr ?_; (case hd => rfl); (case hg => rfl); (case hr => first | (go_simp; done) | (go_simp; rfl)); intro gb472 hg w10 hbox hb; have n0_ := Aside0.mk (below_step (by repeat (first | (with_reducible first | exact HB.out | apply below_alloc | apply pw_below_drewN | apply below_drew1) | exact HB.out)) hb); have n1_ := Aside0.mk (hbox); have n2_ := Aside0.mk ((by rw [hg]; exact (below_size (by repeat (first | (with_reducible first | exact HB.out | apply below_alloc | apply pw_below_drewN | apply below_drew1) | exact HB.out))) : w.heap.size ≤ gb472)); have n3_ := n2_; clear HB; have HB := n0_; have BK472 := n1_; have GW472 := n2_; have GE472 := n3_; clear n0_ n1_ n2_ n3_; clear hb hbox hg) | ((with_reducible refine gate_dst (N := 16) rfl ?_); (with_reducible refine gate_callee (f := 10) rfl ?_); refine goesL_ (some 16) rfl rfl Tryd.func10 (by kernel_rfl) rfl #[] rfl (by (try simp only [List.map_toArray, List.map_cons, List.map_nil]); first | done | rfl | (simp only [List.length_drop, List.length_take]; rfl)) ?_; (with_reducible refine (curtilagelaw02_awake.calls k  t473 _ A4.out (tab_on HTAB.out (by repeat (first | (with_reducible first | exact HB.out | apply below_alloc | apply pw_below_drewN | apply below_drew1 | refine below_set ?_ GE472.out) | exact HB.out)))).mono ?_); rintro e w11 ⟨rfl, hb⟩; refine ⟨_, rfl, ?_⟩; have n0_ := Aside0.mk (blk_below (g := gb472) (o := .cells #[.int .u64 a0_0, .int .u64 a0_1, .int .u64 a0_2, .int .i64 a0_3, .int .i64 a0_4, .bool a0_5] 24 (0, 0)) (by (with_reducible repeat (first | refine blk_drewN ?_ _ | refine blk_drew ?_ | refine blk_alloc ?_ _)); exact BK472.out) hb); have n1_ := Aside0.mk (below_step (by repeat (first | (with_reducible first | exact HB.out | apply below_alloc | apply pw_below_drewN | apply below_drew1 | refine below_set ?_ GE472.out) | exact HB.out)) hb); clear BK472; clear HB; have BK472 := n0_; have HB := n1_; clear n0_ n1_; (try clear hb); (try clear hb2); (try clear hk); (try clear hi); obtain ⟨hcz12_0, hcz12_1, hcz12_2, hcz12_3, hcz12_4, hcz12_5, hfz12_0, hfz12_1, hfz12_2, hfz12_3, hfz12_4, hfz12_5⟩ := cells6 BK472.out) | ((with_reducible refine gate_dst (N := 18) rfl ?_); (with_reducible refine gate_callee (f := 11) rfl ?_); refine goesL_ (some 18) rfl rfl Tryd.func11 (by kernel_rfl) rfl #[.agg #[.int .u64 a0_0, .int .u64 a0_1, .int .u64 a0_2, .int .i64 a0_3, .int .i64 a0_4, .bool a0_5]] rfl (by (try simp only [List.map_toArray, List.map_cons, List.map_nil]); first | done | rfl | (simp only [List.length_drop, List.length_take]; rfl)) ?_; (with_reducible refine (curtilageref02_Right.calls a0_0 a0_1 a0_2 a0_3 a0_4 a0_5 t474 _ A5.out).mono ?_); rintro e w13 ⟨rfl, hb⟩; refine ⟨_, rfl, ?_⟩; have n0_ := Aside0.mk (blk_below (g := gb472) (o := .cells #[.int .u64 a0_0, .int .u64 a0_1, .int .u64 a0_2, .int .i64 a0_3, .int .i64 a0_4, .bool a0_5] 24 (0, 0)) (by (with_reducible repeat (first | refine blk_drewN ?_ _ | refine blk_drew ?_ | refine blk_alloc ?_ _)); exact BK472.out) hb); have n1_ := Aside0.mk (below_step (by repeat (first | (with_reducible first | exact HB.out | apply below_alloc | apply pw_below_drewN | apply below_drew1 | refine below_set ?_ GE472.out) | exact HB.out)) hb); clear BK472; clear HB; have BK472 := n0_; have HB := n1_; clear n0_ n1_; (try clear hb); (try clear hb2); (try clear hk); (try clear hi)) | ((with_reducible refine gate_dst (N := 20) rfl ?_); (with_reducible refine gate_callee (f := 21) rfl ?_); refine goesL_ (some 20) rfl rfl Tryd.func21 (by kernel_rfl) rfl #[.int .u64 a1] rfl (by (try simp only [List.map_toArray, List.map_cons, List.map_nil]); first | done | rfl | (simp only [List.length_drop, List.length_take]; rfl)) ?_; (with_reducible refine (cap_Int.calls a1 t475 t476 t477 t478 t479 t480 _ A6.out).mono ?_); rintro e w14 ⟨rfl, hb⟩; refine ⟨_, rfl, ?_⟩; have n0_ := Aside0.mk (blk_below (g := gb472) (o := .cells #[.int .u64 a0_0, .int .u64 a0_1, .int .u64 a0_2, .int .i64 a0_3, .int .i64 a0_4, .bool a0_5] 24 (0, 0)) (by (with_reducible repeat (first | refine blk_drewN ?_ _ | refine blk_drew ?_ | refine blk_alloc ?_ _)); exact BK472.out) hb); have n1_ := Aside0.mk (below_step (by repeat (first | (with_reducible first | exact HB.out | apply below_alloc | apply pw_below_drewN | apply below_drew1 | refine below_set ?_ GE472.out) | exact HB.out)) hb); clear BK472; clear HB; have BK472 := n0_; have HB := n1_; clear n0_ n1_; (try clear hb); (try clear hb2); (try clear hk); (try clear hi)) | ((with_reducible refine gate_dst (N := 9) rfl ?_); refine box_event ?hg (N := 9) ?hd (cs := #[.int .u64 0, .int .u64 0, .int .u64 0, .int .i64 0, .int .i64 0, .bool false]) (t := 24) ?hr ?_; (case hd => rfl); (case hg => rfl); (case hr => first | (go_simp; done) | (go_simp; rfl)); intro gb481 hg w15 hbox hb; have n0_ := Aside0.mk (blk_below (g := gb472) (o := .cells #[.int .u64 a0_0, .int .u64 a0_1, .int .u64 a0_2, .int .i64 a0_3, .int .i64 a0_4, .bool a0_5] 24 (0, 0)) (by (with_reducible repeat (first | refine blk_drewN ?_ _ | refine blk_drew ?_ | refine blk_alloc ?_ _)); exact BK472.out) hb); have n1_ := Aside0.mk (below_step (by repeat (first | (with_reducible first | exact HB.out | apply below_alloc | apply pw_below_drewN | apply below_drew1 | refine below_set ?_ GE472.out) | exact HB.out)) hb); have n2_ := Aside0.mk (hbox); have n3_ := Aside0.mk ((by rw [hg]; exact (below_size (by repeat (first | (with_reducible first | exact HB.out | apply below_alloc | apply pw_below_drewN | apply below_drew1 | refine below_set ?_ GE472.out) | exact HB.out))) : w.heap.size ≤ gb481)); have n4_ := n3_; have n5_ := Aside0.mk ((by rw [hg]; exact Nat.ne_of_lt (blk_lt (g := gb472) (o := .cells #[.int .u64 a0_0, .int .u64 a0_1, .int .u64 a0_2, .int .i64 a0_3, .int .i64 a0_4, .bool a0_5] 24 (0, 0)) (by (with_reducible repeat (first | refine blk_drewN ?_ _ | refine blk_drew ?_ | refine blk_alloc ?_ _)); exact BK472.out)) : gb472 ≠ gb481)); have n6_ := Aside0.mk n5_.out.symm; clear BK472; clear HB; have BK472 := n0_; have HB := n1_; have BK481 := n2_; have GW481 := n3_; have GE481 := n4_; have NB472_481 := n5_; have NB481_472 := n6_; clear n0_ n1_ n2_ n3_ n4_ n5_ n6_; clear hb hbox hg; have hnb16 := NB481_472.out; have hnc16 := NB472_481.out; obtain ⟨hcz17_0, hcz17_1, hcz17_2, hcz17_3, hcz17_4, hcz17_5, hfz17_0, hfz17_1, hfz17_2, hfz17_3, hfz17_4, hfz17_5⟩ := cells6 BK481.out) | ((with_reducible refine gate_store (t := 24) (p := 9) rfl ?_); refine store_event (t := 24) (p := 9) (v := ?vo_w18) (w1 := ((((((w15.setCell ⟨gb481, 0, none⟩ (.int .u64 t475)).setCell ⟨gb481, 1, none⟩ (.int .u64 t476)).setCell ⟨gb481, 2, none⟩ (.int .u64 t477)).setCell ⟨gb481, 3, none⟩ (.int .i64 t478)).setCell ⟨gb481, 4, none⟩ (.int .i64 t479)).setCell ⟨gb481, 5, none⟩ (.bool t480))) ?hg ?ho ?hn ?hr ?_; (case ho => rfl); (case hg => rfl); (case hn => rfl); (case hr => first | (go_simp; done) | (go_simp; rfl)); intro w18 hw; have n0_ : Aside0 (w18.heap[gb472]? = some (.cells #[.int .u64 a0_0, .int .u64 a0_1, .int .u64 a0_2, .int .i64 a0_3, .int .i64 a0_4, .bool a0_5] 24 (0, 0))) := ⟨(by rw [hw]; exact (by (with_reducible repeat (first | refine blk_drewN ?_ _ | refine blk_drew ?_ | refine blk_alloc ?_ _)); refine blk_far ?_ NB472_481.out _; (with_reducible repeat (first | refine blk_drewN ?_ _ | refine blk_drew ?_ | refine blk_alloc ?_ _)); refine blk_far ?_ NB472_481.out _; (with_reducible repeat (first | refine blk_drewN ?_ _ | refine blk_drew ?_ | refine blk_alloc ?_ _)); refine blk_far ?_ NB472_481.out _; (with_reducible repeat (first | refine blk_drewN ?_ _ | refine blk_drew ?_ | refine blk_alloc ?_ _)); refine blk_far ?_ NB472_481.out _; (with_reducible repeat (first | refine blk_drewN ?_ _ | refine blk_drew ?_ | refine blk_alloc ?_ _)); refine blk_far ?_ NB472_481.out _; (with_reducible repeat (first | refine blk_drewN ?_ _ | refine blk_drew ?_ | refine blk_alloc ?_ _)); refine blk_far ?_ NB472_481.out _; (with_reducible repeat (first | refine blk_drewN ?_ _ | refine blk_drew ?_ | refine blk_alloc ?_ _)); exact BK472.out))⟩; have n1_ : Aside0 (w18.heap[gb481]? = some (.cells #[.int .u64 t475, .int .u64 t476, .int .u64 t477, .int .i64 t478, .int .i64 t479, .bool t480] 24 (0, 0))) := ⟨(by rw [hw]; exact (by (with_reducible repeat (first | refine blk_drewN ?_ _ | refine blk_drew ?_ | refine blk_alloc ?_ _)); refine blk_put (cs := #[.int .u64 t475, .int .u64 t476, .int .u64 t477, .int .i64 t478, .int .i64 t479, .bool false]) ?_ 5 _ rfl; (with_reducible repeat (first | refine blk_drewN ?_ _ | refine blk_drew ?_ | refine blk_alloc ?_ _)); refine blk_put (cs := #[.int .u64 t475, .int .u64 t476, .int .u64 t477, .int .i64 t478, .int .i64 0, .bool false]) ?_ 4 _ rfl; (with_reducible repeat (first | refine blk_drewN ?_ _ | refine blk_drew ?_ | refine blk_alloc ?_ _)); refine blk_put (cs := #[.int .u64 t475, .int .u64 t476, .int .u64 t477, .int .i64 0, .int .i64 0, .bool false]) ?_ 3 _ rfl; (with_reducible repeat (first | refine blk_drewN ?_ _ | refine blk_drew ?_ | refine blk_alloc ?_ _)); refine blk_put (cs := #[.int .u64 t475, .int .u64 t476, .int .u64 0, .int .i64 0, .int .i64 0, .bool false]) ?_ 2 _ rfl; (with_reducible repeat (first | refine blk_drewN ?_ _ | refine blk_drew ?_ | refine blk_alloc ?_ _)); refine blk_put (cs := #[.int .u64 t475, .int .u64 0, .int .u64 0, .int .i64 0, .int .i64 0, .bool false]) ?_ 1 _ rfl; (with_reducible repeat (first | refine blk_drewN ?_ _ | refine blk_drew ?_ | refine blk_alloc ?_ _)); refine blk_put (cs := #[.int .u64 0, .int .u64 0, .int .u64 0, .int .i64 0, .int .i64 0, .bool false]) ?_ 0 _ rfl; (with_reducible repeat (first | refine blk_drewN ?_ _ | refine blk_drew ?_ | refine blk_alloc ?_ _)); exact BK481.out))⟩; have n2_ : Aside0 (Below w.heap.size w w18) := ⟨(by rw [hw]; exact (by repeat (first | (with_reducible first | exact HB.out | apply below_alloc | apply pw_below_drewN | apply below_drew1 | refine below_set ?_ GE472.out | refine below_set ?_ GE481.out) | exact HB.out)))⟩; clear hw; clear BK472; clear BK481; clear HB; have BK472 := n0_; have BK481 := n1_; have HB := n2_; clear n0_ n1_ n2_) | ((with_reducible refine gate_dst (N := 21) rfl ?_); (with_reducible refine gate_callee (f := 22) rfl ?_); refine goesL_ (some 21) rfl rfl Tryd.func22 (by kernel_rfl) rfl #[] rfl (by (try simp only [List.map_toArray, List.map_cons, List.map_nil]); first | done | rfl | (simp only [List.length_drop, List.length_take]; rfl)) ?_; (with_reducible refine (cap_Null.calls  t482 t483 t484 t485 t486 t487 _ A7.out).mono ?_); rintro e w19 ⟨rfl, hb⟩; refine ⟨_, rfl, ?_⟩; have n0_ := Aside0.mk (blk_below (g := gb472) (o := .cells #[.int .u64 a0_0, .int .u64 a0_1, .int .u64 a0_2, .int .i64 a0_3, .int .i64 a0_4, .bool a0_5] 24 (0, 0)) (by (with_reducible repeat (first | refine blk_drewN ?_ _ | refine blk_drew ?_ | refine blk_alloc ?_ _)); exact BK472.out) hb); have n1_ := Aside0.mk (blk_below (g := gb481) (o := .cells #[.int .u64 t475, .int .u64 t476, .int .u64 t477, .int .i64 t478, .int .i64 t479, .bool t480] 24 (0, 0)) (by (with_reducible repeat (first | refine blk_drewN ?_ _ | refine blk_drew ?_ | refine blk_alloc ?_ _)); exact BK481.out) hb); have n2_ := Aside0.mk (below_step (by repeat (first | (with_reducible first | exact HB.out | apply below_alloc | apply pw_below_drewN | apply below_drew1 | refine below_set ?_ GE472.out | refine below_set ?_ GE481.out) | exact HB.out)) hb); clear BK472; clear BK481; clear HB; have BK472 := n0_; have BK481 := n1_; have HB := n2_; clear n0_ n1_ n2_; (try clear hb); (try clear hb2); (try clear hk); (try clear hi)) | ((with_reducible refine gate_dst (N := 10) rfl ?_); refine box_event ?hg (N := 10) ?hd (cs := #[.int .u64 0, .int .u64 0, .int .u64 0, .int .i64 0, .int .i64 0, .bool false]) (t := 24) ?hr ?_; (case hd => rfl); (case hg => rfl); (case hr => first | (go_simp; done) | (go_simp; rfl)); intro gb488 hg w20 hbox hb; have n0_ := Aside0.mk (blk_below (g := gb472) (o := .cells #[.int .u64 a0_0, .int .u64 a0_1, .int .u64 a0_2, .int .i64 a0_3, .int .i64 a0_4, .bool a0_5] 24 (0, 0)) (by (with_reducible repeat (first | refine blk_drewN ?_ _ | refine blk_drew ?_ | refine blk_alloc ?_ _)); exact BK472.out) hb); have n1_ := Aside0.mk (blk_below (g := gb481) (o := .cells #[.int .u64 t475, .int .u64 t476, .int .u64 t477, .int .i64 t478, .int .i64 t479, .bool t480] 24 (0, 0)) (by (with_reducible repeat (first | refine blk_drewN ?_ _ | refine blk_drew ?_ | refine blk_alloc ?_ _)); exact BK481.out) hb); have n2_ := Aside0.mk (below_step (by repeat (first | (with_reducible first | exact HB.out | apply below_alloc | apply pw_below_drewN | apply below_drew1 | refine below_set ?_ GE472.out | refine below_set ?_ GE481.out) | exact HB.out)) hb); have n3_ := Aside0.mk (hbox); have n4_ := Aside0.mk ((by rw [hg]; exact (below_size (by repeat (first | (with_reducible first | exact HB.out | apply below_alloc | apply pw_below_drewN | apply below_drew1 | refine below_set ?_ GE472.out | refine below_set ?_ GE481.out) | exact HB.out))) : w.heap.size ≤ gb488)); have n5_ := n4_; have n6_ := Aside0.mk ((by rw [hg]; exact Nat.ne_of_lt (blk_lt (g := gb472) (o := .cells #[.int .u64 a0_0, .int .u64 a0_1, .int .u64 a0_2, .int .i64 a0_3, .int .i64 a0_4, .bool a0_5] 24 (0, 0)) (by (with_reducible repeat (first | refine blk_drewN ?_ _ | refine blk_drew ?_ | refine blk_alloc ?_ _)); exact BK472.out)) : gb472 ≠ gb488)); have n7_ := Aside0.mk n6_.out.symm; have n8_ := Aside0.mk ((by rw [hg]; exact Nat.ne_of_lt (blk_lt (g := gb481) (o := .cells #[.int .u64 t475, .int .u64 t476, .int .u64 t477, .int .i64 t478, .int .i64 t479, .bool t480] 24 (0, 0)) (by (with_reducible repeat (first | refine blk_drewN ?_ _ | refine blk_drew ?_ | refine blk_alloc ?_ _)); exact BK481.out)) : gb481 ≠ gb488)); have n9_ := Aside0.mk n8_.out.symm; clear BK472; clear BK481; clear HB; have BK472 := n0_; have BK481 := n1_; have HB := n2_; have BK488 := n3_; have GW488 := n4_; have GE488 := n5_; have NB472_488 := n6_; have NB488_472 := n7_; have NB481_488 := n8_; have NB488_481 := n9_; clear n0_ n1_ n2_ n3_ n4_ n5_ n6_ n7_ n8_ n9_; clear hb hbox hg; have hnb21 := NB488_472.out; have hnc21 := NB472_488.out; have hnb22 := NB488_481.out; have hnc22 := NB481_488.out; obtain ⟨hcz23_0, hcz23_1, hcz23_2, hcz23_3, hcz23_4, hcz23_5, hfz23_0, hfz23_1, hfz23_2, hfz23_3, hfz23_4, hfz23_5⟩ := cells6 BK488.out) | ((with_reducible refine gate_store (t := 24) (p := 10) rfl ?_); refine store_event (t := 24) (p := 10) (v := ?vo_w24) (w1 := ((((((w20.setCell ⟨gb488, 0, none⟩ (.int .u64 t482)).setCell ⟨gb488, 1, none⟩ (.int .u64 t483)).setCell ⟨gb488, 2, none⟩ (.int .u64 t484)).setCell ⟨gb488, 3, none⟩ (.int .i64 t485)).setCell ⟨gb488, 4, none⟩ (.int .i64 t486)).setCell ⟨gb488, 5, none⟩ (.bool t487))) ?hg ?ho ?hn ?hr ?_; (case ho => rfl); (case hg => rfl); (case hn => rfl); (case hr => first | (go_simp; done) | (go_simp; rfl)); intro w24 hw; have n0_ : Aside0 (w24.heap[gb472]? = some (.cells #[.int .u64 a0_0, .int .u64 a0_1, .int .u64 a0_2, .int .i64 a0_3, .int .i64 a0_4, .bool a0_5] 24 (0, 0))) := ⟨(by rw [hw]; exact (by (with_reducible repeat (first | refine blk_drewN ?_ _ | refine blk_drew ?_ | refine blk_alloc ?_ _)); refine blk_far ?_ NB472_488.out _; (with_reducible repeat (first | refine blk_drewN ?_ _ | refine blk_drew ?_ | refine blk_alloc ?_ _)); refine blk_far ?_ NB472_488.out _; (with_reducible repeat (first | refine blk_drewN ?_ _ | refine blk_drew ?_ | refine blk_alloc ?_ _)); refine blk_far ?_ NB472_488.out _; (with_reducible repeat (first | refine blk_drewN ?_ _ | refine blk_drew ?_ | refine blk_alloc ?_ _)); refine blk_far ?_ NB472_488.out _; (with_reducible repeat (first | refine blk_drewN ?_ _ | refine blk_drew ?_ | refine blk_alloc ?_ _)); refine blk_far ?_ NB472_488.out _; (with_reducible repeat (first | refine blk_drewN ?_ _ | refine blk_drew ?_ | refine blk_alloc ?_ _)); refine blk_far ?_ NB472_488.out _; (with_reducible repeat (first | refine blk_drewN ?_ _ | refine blk_drew ?_ | refine blk_alloc ?_ _)); exact BK472.out))⟩; have n1_ : Aside0 (w24.heap[gb481]? = some (.cells #[.int .u64 t475, .int .u64 t476, .int .u64 t477, .int .i64 t478, .int .i64 t479, .bool t480] 24 (0, 0))) := ⟨(by rw [hw]; exact (by (with_reducible repeat (first | refine blk_drewN ?_ _ | refine blk_drew ?_ | refine blk_alloc ?_ _)); refine blk_far ?_ NB481_488.out _; (with_reducible repeat (first | refine blk_drewN ?_ _ | refine blk_drew ?_ | refine blk_alloc ?_ _)); refine blk_far ?_ NB481_488.out _; (with_reducible repeat (first | refine blk_drewN ?_ _ | refine blk_drew ?_ | refine blk_alloc ?_ _)); refine blk_far ?_ NB481_488.out _; (with_reducible repeat (first | refine blk_drewN ?_ _ | refine blk_drew ?_ | refine blk_alloc ?_ _)); refine blk_far ?_ NB481_488.out _; (with_reducible repeat (first | refine blk_drewN ?_ _ | refine blk_drew ?_ | refine blk_alloc ?_ _)); refine blk_far ?_ NB481_488.out _; (with_reducible repeat (first | refine blk_drewN ?_ _ | refine blk_drew ?_ | refine blk_alloc ?_ _)); refine blk_far ?_ NB481_488.out _; (with_reducible repeat (first | refine blk_drewN ?_ _ | refine blk_drew ?_ | refine blk_alloc ?_ _)); exact BK481.out))⟩; have n2_ : Aside0 (w24.heap[gb488]? = some (.cells #[.int .u64 t482, .int .u64 t483, .int .u64 t484, .int .i64 t485, .int .i64 t486, .bool t487] 24 (0, 0))) := ⟨(by rw [hw]; exact (by (with_reducible repeat (first | refine blk_drewN ?_ _ | refine blk_drew ?_ | refine blk_alloc ?_ _)); refine blk_put (cs := #[.int .u64 t482, .int .u64 t483, .int .u64 t484, .int .i64 t485, .int .i64 t486, .bool false]) ?_ 5 _ rfl; (with_reducible repeat (first | refine blk_drewN ?_ _ | refine blk_drew ?_ | refine blk_alloc ?_ _)); refine blk_put (cs := #[.int .u64 t482, .int .u64 t483, .int .u64 t484, .int .i64 t485, .int .i64 0, .bool false]) ?_ 4 _ rfl; (with_reducible repeat (first | refine blk_drewN ?_ _ | refine blk_drew ?_ | refine blk_alloc ?_ _)); refine blk_put (cs := #[.int .u64 t482, .int .u64 t483, .int .u64 t484, .int .i64 0, .int .i64 0, .bool false]) ?_ 3 _ rfl; (with_reducible repeat (first | refine blk_drewN ?_ _ | refine blk_drew ?_ | refine blk_alloc ?_ _)); refine blk_put (cs := #[.int .u64 t482, .int .u64 t483, .int .u64 0, .int .i64 0, .int .i64 0, .bool false]) ?_ 2 _ rfl; (with_reducible repeat (first | refine blk_drewN ?_ _ | refine blk_drew ?_ | refine blk_alloc ?_ _)); refine blk_put (cs := #[.int .u64 t482, .int .u64 0, .int .u64 0, .int .i64 0, .int .i64 0, .bool false]) ?_ 1 _ rfl; (with_reducible repeat (first | refine blk_drewN ?_ _ | refine blk_drew ?_ | refine blk_alloc ?_ _)); refine blk_put (cs := #[.int .u64 0, .int .u64 0, .int .u64 0, .int .i64 0, .int .i64 0, .bool false]) ?_ 0 _ rfl; (with_reducible repeat (first | refine blk_drewN ?_ _ | refine blk_drew ?_ | refine blk_alloc ?_ _)); exact BK488.out))⟩; have n3_ : Aside0 (Below w.heap.size w w24) := ⟨(by rw [hw]; exact (by repeat (first | (with_reducible first | exact HB.out | apply below_alloc | apply pw_below_drewN | apply below_drew1 | refine below_set ?_ GE472.out | refine below_set ?_ GE481.out | refine below_set ?_ GE488.out) | exact HB.out)))⟩; clear hw; clear BK472; clear BK481; clear BK488; clear HB; have BK472 := n0_; have BK481 := n1_; have BK488 := n2_; have HB := n3_; clear n0_ n1_ n2_ n3_) | ((with_reducible refine gate_dst (N := 23) rfl ?_); (with_reducible refine gate_callee (f := 23) rfl ?_); refine goesL_ (some 23) rfl rfl Tryd.func23 (by kernel_rfl) rfl #[.int .u64 a1] rfl (by (try simp only [List.map_toArray, List.map_cons, List.map_nil]); first | done | rfl | (simp only [List.length_drop, List.length_take]; rfl)) ?_; (with_reducible refine (cap_Root.calls a1 t489 t490 t491 t492 t493 t494 _ A8.out).mono ?_); rintro e w25 ⟨rfl, hb⟩; refine ⟨_, rfl, ?_⟩; have n0_ := Aside0.mk (blk_below (g := gb472) (o := .cells #[.int .u64 a0_0, .int .u64 a0_1, .int .u64 a0_2, .int .i64 a0_3, .int .i64 a0_4, .bool a0_5] 24 (0, 0)) (by (with_reducible repeat (first | refine blk_drewN ?_ _ | refine blk_drew ?_ | refine blk_alloc ?_ _)); exact BK472.out) hb); have n1_ := Aside0.mk (blk_below (g := gb481) (o := .cells #[.int .u64 t475, .int .u64 t476, .int .u64 t477, .int .i64 t478, .int .i64 t479, .bool t480] 24 (0, 0)) (by (with_reducible repeat (first | refine blk_drewN ?_ _ | refine blk_drew ?_ | refine blk_alloc ?_ _)); exact BK481.out) hb); have n2_ := Aside0.mk (blk_below (g := gb488) (o := .cells #[.int .u64 t482, .int .u64 t483, .int .u64 t484, .int .i64 t485, .int .i64 t486, .bool t487] 24 (0, 0)) (by (with_reducible repeat (first | refine blk_drewN ?_ _ | refine blk_drew ?_ | refine blk_alloc ?_ _)); exact BK488.out) hb); have n3_ := Aside0.mk (below_step (by repeat (first | (with_reducible first | exact HB.out | apply below_alloc | apply pw_below_drewN | apply below_drew1 | refine below_set ?_ GE472.out | refine below_set ?_ GE481.out | refine below_set ?_ GE488.out) | exact HB.out)) hb); clear BK472; clear BK481; clear BK488; clear HB; have BK472 := n0_; have BK481 := n1_; have BK488 := n2_; have HB := n3_; clear n0_ n1_ n2_ n3_; (try clear hb); (try clear hb2); (try clear hk); (try clear hi)) | ((with_reducible refine gate_dst (N := 11) rfl ?_); refine box_event ?hg (N := 11) ?hd (cs := #[.int .u64 0, .int .u64 0, .int .u64 0, .int .i64 0, .int .i64 0, .bool false]) (t := 24) ?hr ?_; (case hd => rfl); (case hg => rfl); (case hr => first | (go_simp; done) | (go_simp; rfl)); intro gb495 hg w26 hbox hb; have n0_ := Aside0.mk (blk_below (g := gb472) (o := .cells #[.int .u64 a0_0, .int .u64 a0_1, .int .u64 a0_2, .int .i64 a0_3, .int .i64 a0_4, .bool a0_5] 24 (0, 0)) (by (with_reducible repeat (first | refine blk_drewN ?_ _ | refine blk_drew ?_ | refine blk_alloc ?_ _)); exact BK472.out) hb); have n1_ := Aside0.mk (blk_below (g := gb481) (o := .cells #[.int .u64 t475, .int .u64 t476, .int .u64 t477, .int .i64 t478, .int .i64 t479, .bool t480] 24 (0, 0)) (by (with_reducible repeat (first | refine blk_drewN ?_ _ | refine blk_drew ?_ | refine blk_alloc ?_ _)); exact BK481.out) hb); have n2_ := Aside0.mk (blk_below (g := gb488) (o := .cells #[.int .u64 t482, .int .u64 t483, .int .u64 t484, .int .i64 t485, .int .i64 t486, .bool t487] 24 (0, 0)) (by (with_reducible repeat (first | refine blk_drewN ?_ _ | refine blk_drew ?_ | refine blk_alloc ?_ _)); exact BK488.out) hb); have n3_ := Aside0.mk (below_step (by repeat (first | (with_reducible first | exact HB.out | apply below_alloc | apply pw_below_drewN | apply below_drew1 | refine below_set ?_ GE472.out | refine below_set ?_ GE481.out | refine below_set ?_ GE488.out) | exact HB.out)) hb); have n4_ := Aside0.mk (hbox); have n5_ := Aside0.mk ((by rw [hg]; exact (below_size (by repeat (first | (with_reducible first | exact HB.out | apply below_alloc | apply pw_below_drewN | apply below_drew1 | refine below_set ?_ GE472.out | refine below_set ?_ GE481.out | refine below_set ?_ GE488.out) | exact HB.out))) : w.heap.size ≤ gb495)); have n6_ := n5_; have n7_ := Aside0.mk ((by rw [hg]; exact Nat.ne_of_lt (blk_lt (g := gb472) (o := .cells #[.int .u64 a0_0, .int .u64 a0_1, .int .u64 a0_2, .int .i64 a0_3, .int .i64 a0_4, .bool a0_5] 24 (0, 0)) (by (with_reducible repeat (first | refine blk_drewN ?_ _ | refine blk_drew ?_ | refine blk_alloc ?_ _)); exact BK472.out)) : gb472 ≠ gb495)); have n8_ := Aside0.mk n7_.out.symm; have n9_ := Aside0.mk ((by rw [hg]; exact Nat.ne_of_lt (blk_lt (g := gb481) (o := .cells #[.int .u64 t475, .int .u64 t476, .int .u64 t477, .int .i64 t478, .int .i64 t479, .bool t480] 24 (0, 0)) (by (with_reducible repeat (first | refine blk_drewN ?_ _ | refine blk_drew ?_ | refine blk_alloc ?_ _)); exact BK481.out)) : gb481 ≠ gb495)); have n10_ := Aside0.mk n9_.out.symm; have n11_ := Aside0.mk ((by rw [hg]; exact Nat.ne_of_lt (blk_lt (g := gb488) (o := .cells #[.int .u64 t482, .int .u64 t483, .int .u64 t484, .int .i64 t485, .int .i64 t486, .bool t487] 24 (0, 0)) (by (with_reducible repeat (first | refine blk_drewN ?_ _ | refine blk_drew ?_ | refine blk_alloc ?_ _)); exact BK488.out)) : gb488 ≠ gb495)); have n12_ := Aside0.mk n11_.out.symm; clear BK472; clear BK481; clear BK488; clear HB; have BK472 := n0_; have BK481 := n1_; have BK488 := n2_; have HB := n3_; have BK495 := n4_; have GW495 := n5_; have GE495 := n6_; have NB472_495 := n7_; have NB495_472 := n8_; have NB481_495 := n9_; have NB495_481 := n10_; have NB488_495 := n11_; have NB495_488 := n12_; clear n0_ n1_ n2_ n3_ n4_ n5_ n6_ n7_ n8_ n9_ n10_ n11_ n12_; clear hb hbox hg; have hnb27 := NB495_472.out; have hnc27 := NB472_495.out; have hnb28 := NB495_481.out; have hnc28 := NB481_495.out; have hnb29 := NB495_488.out; have hnc29 := NB488_495.out; obtain ⟨hcz30_0, hcz30_1, hcz30_2, hcz30_3, hcz30_4, hcz30_5, hfz30_0, hfz30_1, hfz30_2, hfz30_3, hfz30_4, hfz30_5⟩ := cells6 BK495.out) | ((with_reducible refine gate_store (t := 24) (p := 11) rfl ?_); refine store_event (t := 24) (p := 11) (v := ?vo_w31) (w1 := ((((((w26.setCell ⟨gb495, 0, none⟩ (.int .u64 t489)).setCell ⟨gb495, 1, none⟩ (.int .u64 t490)).setCell ⟨gb495, 2, none⟩ (.int .u64 t491)).setCell ⟨gb495, 3, none⟩ (.int .i64 t492)).setCell ⟨gb495, 4, none⟩ (.int .i64 t493)).setCell ⟨gb495, 5, none⟩ (.bool t494))) ?hg ?ho ?hn ?hr ?_; (case ho => rfl); (case hg => rfl); (case hn => rfl); (case hr => first | (go_simp; done) | (go_simp; rfl)); intro w31 hw; have n0_ : Aside0 (w31.heap[gb472]? = some (.cells #[.int .u64 a0_0, .int .u64 a0_1, .int .u64 a0_2, .int .i64 a0_3, .int .i64 a0_4, .bool a0_5] 24 (0, 0))) := ⟨(by rw [hw]; exact (by (with_reducible repeat (first | refine blk_drewN ?_ _ | refine blk_drew ?_ | refine blk_alloc ?_ _)); refine blk_far ?_ NB472_495.out _; (with_reducible repeat (first | refine blk_drewN ?_ _ | refine blk_drew ?_ | refine blk_alloc ?_ _)); refine blk_far ?_ NB472_495.out _; (with_reducible repeat (first | refine blk_drewN ?_ _ | refine blk_drew ?_ | refine blk_alloc ?_ _)); refine blk_far ?_ NB472_495.out _; (with_reducible repeat (first | refine blk_drewN ?_ _ | refine blk_drew ?_ | refine blk_alloc ?_ _)); refine blk_far ?_ NB472_495.out _; (with_reducible repeat (first | refine blk_drewN ?_ _ | refine blk_drew ?_ | refine blk_alloc ?_ _)); refine blk_far ?_ NB472_495.out _; (with_reducible repeat (first | refine blk_drewN ?_ _ | refine blk_drew ?_ | refine blk_alloc ?_ _)); refine blk_far ?_ NB472_495.out _; (with_reducible repeat (first | refine blk_drewN ?_ _ | refine blk_drew ?_ | refine blk_alloc ?_ _)); exact BK472.out))⟩; have n1_ : Aside0 (w31.heap[gb481]? = some (.cells #[.int .u64 t475, .int .u64 t476, .int .u64 t477, .int .i64 t478, .int .i64 t479, .bool t480] 24 (0, 0))) := ⟨(by rw [hw]; exact (by (with_reducible repeat (first | refine blk_drewN ?_ _ | refine blk_drew ?_ | refine blk_alloc ?_ _)); refine blk_far ?_ NB481_495.out _; (with_reducible repeat (first | refine blk_drewN ?_ _ | refine blk_drew ?_ | refine blk_alloc ?_ _)); refine blk_far ?_ NB481_495.out _; (with_reducible repeat (first | refine blk_drewN ?_ _ | refine blk_drew ?_ | refine blk_alloc ?_ _)); refine blk_far ?_ NB481_495.out _; (with_reducible repeat (first | refine blk_drewN ?_ _ | refine blk_drew ?_ | refine blk_alloc ?_ _)); refine blk_far ?_ NB481_495.out _; (with_reducible repeat (first | refine blk_drewN ?_ _ | refine blk_drew ?_ | refine blk_alloc ?_ _)); refine blk_far ?_ NB481_495.out _; (with_reducible repeat (first | refine blk_drewN ?_ _ | refine blk_drew ?_ | refine blk_alloc ?_ _)); refine blk_far ?_ NB481_495.out _; (with_reducible repeat (first | refine blk_drewN ?_ _ | refine blk_drew ?_ | refine blk_alloc ?_ _)); exact BK481.out))⟩; have n2_ : Aside0 (w31.heap[gb488]? = some (.cells #[.int .u64 t482, .int .u64 t483, .int .u64 t484, .int .i64 t485, .int .i64 t486, .bool t487] 24 (0, 0))) := ⟨(by rw [hw]; exact (by (with_reducible repeat (first | refine blk_drewN ?_ _ | refine blk_drew ?_ | refine blk_alloc ?_ _)); refine blk_far ?_ NB488_495.out _; (with_reducible repeat (first | refine blk_drewN ?_ _ | refine blk_drew ?_ | refine blk_alloc ?_ _)); refine blk_far ?_ NB488_495.out _; (with_reducible repeat (first | refine blk_drewN ?_ _ | refine blk_drew ?_ | refine blk_alloc ?_ _)); refine blk_far ?_ NB488_495.out _; (with_reducible repeat (first | refine blk_drewN ?_ _ | refine blk_drew ?_ | refine blk_alloc ?_ _)); refine blk_far ?_ NB488_495.out _; (with_reducible repeat (first | refine blk_drewN ?_ _ | refine blk_drew ?_ | refine blk_alloc ?_ _)); refine blk_far ?_ NB488_495.out _; (with_reducible repeat (first | refine blk_drewN ?_ _ | refine blk_drew ?_ | refine blk_alloc ?_ _)); refine blk_far ?_ NB488_495.out _; (with_reducible repeat (first | refine blk_drewN ?_ _ | refine blk_drew ?_ | refine blk_alloc ?_ _)); exact BK488.out))⟩; have n3_ : Aside0 (w31.heap[gb495]? = some (.cells #[.int .u64 t489, .int .u64 t490, .int .u64 t491, .int .i64 t492, .int .i64 t493, .bool t494] 24 (0, 0))) := ⟨(by rw [hw]; exact (by (with_reducible repeat (first | refine blk_drewN ?_ _ | refine blk_drew ?_ | refine blk_alloc ?_ _)); refine blk_put (cs := #[.int .u64 t489, .int .u64 t490, .int .u64 t491, .int .i64 t492, .int .i64 t493, .bool false]) ?_ 5 _ rfl; (with_reducible repeat (first | refine blk_drewN ?_ _ | refine blk_drew ?_ | refine blk_alloc ?_ _)); refine blk_put (cs := #[.int .u64 t489, .int .u64 t490, .int .u64 t491, .int .i64 t492, .int .i64 0, .bool false]) ?_ 4 _ rfl; (with_reducible repeat (first | refine blk_drewN ?_ _ | refine blk_drew ?_ | refine blk_alloc ?_ _)); refine blk_put (cs := #[.int .u64 t489, .int .u64 t490, .int .u64 t491, .int .i64 0, .int .i64 0, .bool false]) ?_ 3 _ rfl; (with_reducible repeat (first | refine blk_drewN ?_ _ | refine blk_drew ?_ | refine blk_alloc ?_ _)); refine blk_put (cs := #[.int .u64 t489, .int .u64 t490, .int .u64 0, .int .i64 0, .int .i64 0, .bool false]) ?_ 2 _ rfl; (with_reducible repeat (first | refine blk_drewN ?_ _ | refine blk_drew ?_ | refine blk_alloc ?_ _)); refine blk_put (cs := #[.int .u64 t489, .int .u64 0, .int .u64 0, .int .i64 0, .int .i64 0, .bool false]) ?_ 1 _ rfl; (with_reducible repeat (first | refine blk_drewN ?_ _ | refine blk_drew ?_ | refine blk_alloc ?_ _)); refine blk_put (cs := #[.int .u64 0, .int .u64 0, .int .u64 0, .int .i64 0, .int .i64 0, .bool false]) ?_ 0 _ rfl; (with_reducible repeat (first | refine blk_drewN ?_ _ | refine blk_drew ?_ | refine blk_alloc ?_ _)); exact BK495.out))⟩; have n4_ : Aside0 (Below w.heap.size w w31) := ⟨(by rw [hw]; exact (by repeat (first | (with_reducible first | exact HB.out | apply below_alloc | apply pw_below_drewN | apply below_drew1 | refine below_set ?_ GE472.out | refine below_set ?_ GE481.out | refine below_set ?_ GE488.out | refine below_set ?_ GE495.out) | exact HB.out)))⟩; clear hw; clear BK472; clear BK481; clear BK488; clear BK495; clear HB; have BK472 := n0_; have BK481 := n1_; have BK488 := n2_; have BK495 := n3_; have HB := n4_; clear n0_ n1_ n2_ n3_ n4_))
  (try simp only [Act.put, List.setIfInBounds_toArray, List.set_cons_zero, List.set_cons_succ])
  go_cut [38] (fun v38 wc => ∃ (kq : Nat) (x38_8 : Bool), v38 = .bool x38_8 ∧ Aside0 (curtilagelaw02_CapMakes.j0 kq a1 a2 t473 t474 x38_8 a0_0 a0_1 a0_2 a0_3 a0_4 a0_5 = some r) ∧ Aside0 (kq ≤ k) ∧ Aside0 (wc.heap[gb472]? = some (.cells #[.int .u64 a0_0, .int .u64 a0_1, .int .u64 a0_2, .int .i64 a0_3, .int .i64 a0_4, .bool a0_5] 24 (0, 0))) ∧ Aside0 (wc.heap[gb481]? = some (.cells #[.int .u64 t475, .int .u64 t476, .int .u64 t477, .int .i64 t478, .int .i64 t479, .bool t480] 24 (0, 0))) ∧ Aside0 (wc.heap[gb488]? = some (.cells #[.int .u64 t482, .int .u64 t483, .int .u64 t484, .int .i64 t485, .int .i64 t486, .bool t487] 24 (0, 0))) ∧ Aside0 (wc.heap[gb495]? = some (.cells #[.int .u64 t489, .int .u64 t490, .int .u64 t491, .int .i64 t492, .int .i64 t493, .bool t494] 24 (0, 0))) ∧ Aside0 (Below w.heap.size w wc))
  case first =>
    have H := HC9.out
    clear HC9
    replace H := Option.bind_eq_some_iff.mp H
    obtain ⟨⟨t496, t497, t498, t499, t500, t501⟩, A320, H⟩ := H
    replace H : (if (!(t475 == t496) || (!(t476 == t497) || (!(t477 == t498) || (!(t478 == t499) || (!(t479 == t500) || (!(t480 == t501))))))) = true then (curtilagelaw02_CapMakes.j0 k a1 a2 t473 t474 true a0_0 a0_1 a0_2 a0_3 a0_4 a0_5) else ((curtilageref02_Int.f 0).bind fun bt502 => (if (!(t482 == bt502.1) || (!(t483 == bt502.2.1) || (!(t484 == bt502.2.2.1) || (!(t485 == bt502.2.2.2.1) || (!(t486 == bt502.2.2.2.2.1) || (!(t487 == bt502.2.2.2.2.2))))))) = true then (curtilagelaw02_CapMakes.j0 k a1 a2 t473 t474 true a0_0 a0_1 a0_2 a0_3 a0_4 a0_5) else ((curtilageref02_Root.f a1).bind fun bt508 => (curtilagelaw02_CapMakes.j0 k a1 a2 t473 t474 (!(t489 == bt508.1) || (!(t490 == bt508.2.1) || (!(t491 == bt508.2.2.1) || (!(t492 == bt508.2.2.2.1) || (!(t493 == bt508.2.2.2.2.1) || (!(t494 == bt508.2.2.2.2.2))))))) a0_0 a0_1 a0_2 a0_3 a0_4 a0_5))))) = some r := H
    have A32 := Aside0.mk A320
    clear A320
    by_cases c33 : (!(t475 == t496) || (!(t476 == t497) || (!(t477 == t498) || (!(t478 == t499) || (!(t479 == t500) || (!(t480 == t501))))))) = true
    · rw [if_pos c33] at H
      have c33b0 : (!(t475 == t496) || (!(t476 == t497) || (!(t477 == t498) || (!(t478 == t499) || (!(t479 == t500) || (!(t480 == t501))))))) = true := c33
      clear c33
      (first | rw [c33b0] | (simp only [i64_w, i32_w]; rw [c33b0]) | skip)
      have H' := Aside0.mk H
      clear H
      try go_wp2
      have n0_ := Aside0.mk (blk_drew BK472.out)
      have n1_ := Aside0.mk (blk_drew BK481.out)
      have n2_ := Aside0.mk (blk_drew BK488.out)
      have n3_ := Aside0.mk (blk_drew BK495.out)
      have n4_ := Aside0.mk (below_drew1 HB.out)
      clear BK472
      clear BK481
      clear BK488
      clear BK495
      clear HB
      have BK472 := n0_
      have BK481 := n1_
      have BK488 := n2_
      have BK495 := n3_
      have HB := n4_
      clear n0_ n1_ n2_ n3_ n4_
      refine start_ (n := 15) (S := fun w' => w'.cell? ⟨gb481, 0, none⟩ = some (.int .u64 t475) ∧ w'.cell? ⟨gb481, 1, none⟩ = some (.int .u64 t476) ∧ w'.cell? ⟨gb481, 2, none⟩ = some (.int .u64 t477) ∧ w'.cell? ⟨gb481, 3, none⟩ = some (.int .i64 t478) ∧ w'.cell? ⟨gb481, 4, none⟩ = some (.int .i64 t479) ∧ w'.cell? ⟨gb481, 5, none⟩ = some (.bool t480)) (ds := []) #[false, false, false, false, false, false, false, false, false, false, false, false, false, false, false] (by kernel_rfl) rfl rfl ⟨(blk_cell BK481.out 0).trans rfl, (blk_cell BK481.out 1).trans rfl, (blk_cell BK481.out 2).trans rfl, (blk_cell BK481.out 3).trans rfl, (blk_cell BK481.out 4).trans rfl, (blk_cell BK481.out 5).trans rfl⟩ (fun hHeld => ?_); refine with_tabW curtilagelaw02_CapMakes.tab6 curtilagelaw02_CapMakes.bits6 (fun HT_ HW_ => ?_)
      generalize w31.drew = w34 at BK472 BK481 BK488 BK495 HB hHeld ⊢
      refine pure_ (i := 1) (N := some 25) (v := ?_) (a' := ?_) #[false, true, false, false, false, false, false, false, false, false, false, false, false, false, false] rfl rfl (any_of HT_.out (by kernel_rfl)) (fun _ _ _ h => h) (Or.inl ⟨by rfl, ?_⟩) ?_ ?_
      rotate_left
      · intro w'
        go_simp
        with_reducible rfl
      rotate_left
      · simp only [Act.put, List.setIfInBounds_toArray, List.set_cons_zero, List.set_cons_succ, i64_w, i32_w]
        rfl
      refine take_ (i := 0) (N := some 24) (v := ?_) (a' := ?_) #[true, true, false, false, false, false, false, false, false, false, false, false, false, false, false] rfl rfl (take_ofW HT_.out HW_.out (by kernel_rfl)) (fun _ _ _ h => h) (Or.inl ⟨by rfl, ?_⟩) hHeld ?_ ?_
      rotate_left
      · rintro w' ⟨s0, s1, s2, s3, s4, s5⟩
        go_simp
        with_reducible rfl
      rotate_left
      · simp only [Act.put, List.setIfInBounds_toArray, List.set_cons_zero, List.set_cons_succ, i64_w, i32_w]
        rfl
      refine one_ (i := 2) (N := some 26) #[true, true, true, false, false, false, false, false, false, false, false, false, false, false, false] rfl rfl (one_of HT_.out (by kernel_rfl)) (by decide) (fun K hK => ?_)
      refine goes_ Tryd.func24 (by kernel_rfl) rfl #[.int .u64 a1] (by rfl) rfl rfl (by (try simp only [List.map_toArray, List.map_cons, List.map_nil]); first | done | rfl | (simp only [List.length_drop, List.length_take]; rfl)) ?_
      with_reducible refine (curtilageref02_Int.calls a1 t496 t497 t498 t499 t500 t501 _ A32.out).mono ?_
      rintro e w35 ⟨rfl, hb⟩
      refine ⟨_, rfl, ?_⟩
      have n0_ := Aside0.mk (blk_below (g := gb472) (o := .cells #[.int .u64 a0_0, .int .u64 a0_1, .int .u64 a0_2, .int .i64 a0_3, .int .i64 a0_4, .bool a0_5] 24 (0, 0)) (by (with_reducible repeat (first | refine blk_drewN ?_ _ | refine blk_drew ?_ | refine blk_alloc ?_ _)); exact BK472.out) hb)
      have n1_ := Aside0.mk (blk_below (g := gb481) (o := .cells #[.int .u64 t475, .int .u64 t476, .int .u64 t477, .int .i64 t478, .int .i64 t479, .bool t480] 24 (0, 0)) (by (with_reducible repeat (first | refine blk_drewN ?_ _ | refine blk_drew ?_ | refine blk_alloc ?_ _)); exact BK481.out) hb)
      have n2_ := Aside0.mk (blk_below (g := gb488) (o := .cells #[.int .u64 t482, .int .u64 t483, .int .u64 t484, .int .i64 t485, .int .i64 t486, .bool t487] 24 (0, 0)) (by (with_reducible repeat (first | refine blk_drewN ?_ _ | refine blk_drew ?_ | refine blk_alloc ?_ _)); exact BK488.out) hb)
      have n3_ := Aside0.mk (blk_below (g := gb495) (o := .cells #[.int .u64 t489, .int .u64 t490, .int .u64 t491, .int .i64 t492, .int .i64 t493, .bool t494] 24 (0, 0)) (by (with_reducible repeat (first | refine blk_drewN ?_ _ | refine blk_drew ?_ | refine blk_alloc ?_ _)); exact BK495.out) hb)
      have n4_ := Aside0.mk (below_step (by repeat (first | (with_reducible first | exact HB.out | apply below_alloc | apply pw_below_drewN | apply below_drew1 | refine below_set ?_ GE472.out | refine below_set ?_ GE481.out | refine below_set ?_ GE488.out | refine below_set ?_ GE495.out) | exact HB.out)) hb)
      clear BK472
      clear BK481
      clear BK488
      clear BK495
      clear HB
      have BK472 := n0_
      have BK481 := n1_
      have BK488 := n2_
      have BK495 := n3_
      have HB := n4_
      clear n0_ n1_ n2_ n3_ n4_
      (try clear hb)
      (try clear hb2)
      (try clear hk)
      (try clear hi)
      refine hK.out _ _ ⟨(blk_cell BK481.out 0).trans rfl, (blk_cell BK481.out 1).trans rfl, (blk_cell BK481.out 2).trans rfl, (blk_cell BK481.out 3).trans rfl, (blk_cell BK481.out 4).trans rfl, (blk_cell BK481.out 5).trans rfl⟩ (fun hHeld => ?_)
      clear hK K
      refine norm_ (a' := ?_) ?_ ?_
      rotate_left
      · show Act.put _ (some 26) _ = _
        simp only [Act.put, List.setIfInBounds_toArray, List.set_cons_zero, List.set_cons_succ, i64_w, i32_w]
        rfl
      refine pure_ (i := 3) (N := some 27) (v := ?_) (a' := ?_) #[true, true, true, true, false, false, false, false, false, false, false, false, false, false, false] rfl rfl (any_of HT_.out (by kernel_rfl)) (fun _ _ _ h => h) (Or.inl ⟨by rfl, ?_⟩) ?_ ?_
      rotate_left
      · intro w'
        go_simp
        first | (rw [c33b0]; done) | (rw [c33b0]; with_reducible rfl) | (have h_ := c33b0; simp only [beq_true, beq_false, Bool.not_not] at h_; rw [h_]; done) | (have h_ := c33b0; simp only [beq_true, beq_false, Bool.not_not] at h_; rw [h_]; with_reducible rfl) | (with_reducible rfl)
      rotate_left
      · simp only [Act.put, List.setIfInBounds_toArray, List.set_cons_zero, List.set_cons_succ, i64_w, i32_w]
        rfl
      refine pure_ (i := 4) (N := some 28) (v := ?_) (a' := ?_) #[true, true, true, true, true, false, false, false, false, false, false, false, false, false, false] rfl rfl (any_of HT_.out (by kernel_rfl)) (fun _ _ _ h => h) (Or.inl ⟨by rfl, ?_⟩) ?_ ?_
      rotate_left
      · intro w'
        go_simp
        with_reducible rfl
      rotate_left
      · simp only [Act.put, List.setIfInBounds_toArray, List.set_cons_zero, List.set_cons_succ, i64_w, i32_w]
        rfl
      refine pure_ (i := 5) (N := some 29) (v := undef) (a' := ?_) #[true, true, true, true, true, true, false, false, false, false, false, false, false, false, false] rfl rfl (any_of HT_.out (by kernel_rfl)) (fun _ _ _ h => h) (Or.inr ⟨by rfl, rfl⟩) ?_ ?_
      rotate_left
      · simp only [Act.put, List.setIfInBounds_toArray, List.set_cons_zero, List.set_cons_succ, i64_w, i32_w]
        rfl
      refine pure_ (i := 6) (N := some 30) (v := undef) (a' := ?_) #[true, true, true, true, true, true, true, false, false, false, false, false, false, false, false] rfl rfl (any_of HT_.out (by kernel_rfl)) (fun _ _ _ h => h) (Or.inr ⟨by rfl, rfl⟩) ?_ ?_
      rotate_left
      · simp only [Act.put, List.setIfInBounds_toArray, List.set_cons_zero, List.set_cons_succ, i64_w, i32_w]
        rfl
      refine pure_ (i := 7) (N := some 31) (v := undef) (a' := ?_) #[true, true, true, true, true, true, true, true, false, false, false, false, false, false, false] rfl rfl (any_of HT_.out (by kernel_rfl)) (fun _ _ _ h => h) (Or.inr ⟨by rfl, rfl⟩) ?_ ?_
      rotate_left
      · simp only [Act.put, List.setIfInBounds_toArray, List.set_cons_zero, List.set_cons_succ, i64_w, i32_w]
        rfl
      refine pure_ (i := 8) (N := some 32) (v := ?_) (a' := ?_) #[true, true, true, true, true, true, true, true, true, false, false, false, false, false, false] rfl rfl (any_of HT_.out (by kernel_rfl)) (fun _ _ _ h => h) (Or.inl ⟨by rfl, ?_⟩) ?_ ?_
      rotate_left
      · intro w'
        go_simp
        with_reducible rfl
      rotate_left
      · simp only [Act.put, List.setIfInBounds_toArray, List.set_cons_zero, List.set_cons_succ, i64_w, i32_w]
        rfl
      refine pure_ (i := 9) (N := some 33) (v := ?_) (a' := ?_) #[true, true, true, true, true, true, true, true, true, true, false, false, false, false, false] rfl rfl (any_of HT_.out (by kernel_rfl)) (fun _ _ _ h => h) (Or.inl ⟨by rfl, ?_⟩) ?_ ?_
      rotate_left
      · intro w'
        go_simp
        with_reducible rfl
      rotate_left
      · simp only [Act.put, List.setIfInBounds_toArray, List.set_cons_zero, List.set_cons_succ, i64_w, i32_w]
        rfl
      refine pure_ (i := 10) (N := some 34) (v := undef) (a' := ?_) #[true, true, true, true, true, true, true, true, true, true, true, false, false, false, false] rfl rfl (any_of HT_.out (by kernel_rfl)) (fun _ _ _ h => h) (Or.inr ⟨by rfl, rfl⟩) ?_ ?_
      rotate_left
      · simp only [Act.put, List.setIfInBounds_toArray, List.set_cons_zero, List.set_cons_succ, i64_w, i32_w]
        rfl
      refine pure_ (i := 11) (N := some 35) (v := undef) (a' := ?_) #[true, true, true, true, true, true, true, true, true, true, true, true, false, false, false] rfl rfl (any_of HT_.out (by kernel_rfl)) (fun _ _ _ h => h) (Or.inr ⟨by rfl, rfl⟩) ?_ ?_
      rotate_left
      · simp only [Act.put, List.setIfInBounds_toArray, List.set_cons_zero, List.set_cons_succ, i64_w, i32_w]
        rfl
      refine pure_ (i := 12) (N := some 36) (v := undef) (a' := ?_) #[true, true, true, true, true, true, true, true, true, true, true, true, true, false, false] rfl rfl (any_of HT_.out (by kernel_rfl)) (fun _ _ _ h => h) (Or.inr ⟨by rfl, rfl⟩) ?_ ?_
      rotate_left
      · simp only [Act.put, List.setIfInBounds_toArray, List.set_cons_zero, List.set_cons_succ, i64_w, i32_w]
        rfl
      refine pure_ (i := 13) (N := some 37) (v := undef) (a' := ?_) #[true, true, true, true, true, true, true, true, true, true, true, true, true, true, false] rfl rfl (any_of HT_.out (by kernel_rfl)) (fun _ _ _ h => h) (Or.inr ⟨by rfl, rfl⟩) ?_ ?_
      rotate_left
      · simp only [Act.put, List.setIfInBounds_toArray, List.set_cons_zero, List.set_cons_succ, i64_w, i32_w]
        rfl
      refine pure_ (i := 14) (N := some 38) (v := ?_) (a' := ?_) #[true, true, true, true, true, true, true, true, true, true, true, true, true, true, true] rfl rfl (any_of HT_.out (by kernel_rfl)) (fun _ _ _ h => h) (Or.inl ⟨by rfl, ?_⟩) ?_ ?_
      rotate_left
      · intro w'
        go_simp
        with_reducible rfl
      rotate_left
      · simp only [Act.put, List.setIfInBounds_toArray, List.set_cons_zero, List.set_cons_succ, i64_w, i32_w]
        rfl
      refine done_ (done_of HT_.out (by kernel_rfl)) ?_
      try go_wp2
      go_meet
      case rel => exact ⟨_, (true), (by first | rfl | (simp; done) | (simp [*]; done)), H', ⟨by first | omega | exact Nat.le_refl _⟩, ⟨by (with_reducible repeat (first | refine blk_drewN ?_ _ | refine blk_drew ?_ | refine blk_alloc ?_ _)); exact BK472.out⟩, ⟨by (with_reducible repeat (first | refine blk_drewN ?_ _ | refine blk_drew ?_ | refine blk_alloc ?_ _)); exact BK481.out⟩, ⟨by (with_reducible repeat (first | refine blk_drewN ?_ _ | refine blk_drew ?_ | refine blk_alloc ?_ _)); exact BK488.out⟩, ⟨by (with_reducible repeat (first | refine blk_drewN ?_ _ | refine blk_drew ?_ | refine blk_alloc ?_ _)); exact BK495.out⟩, ⟨by repeat (first | (with_reducible first | exact HB.out | apply below_alloc | apply pw_below_drewN | apply below_drew1 | refine below_set ?_ GE472.out | refine below_set ?_ GE481.out | refine below_set ?_ GE488.out | refine below_set ?_ GE495.out) | exact HB.out)⟩⟩
    · rw [if_neg c33] at H
      have c33b0 : (!(t475 == t496) || (!(t476 == t497) || (!(t477 == t498) || (!(t478 == t499) || (!(t479 == t500) || (!(t480 == t501))))))) = false := by simpa using c33
      clear c33
      (first | rw [c33b0] | (simp only [i64_w, i32_w]; rw [c33b0]) | skip)
      replace H := Option.bind_eq_some_iff.mp H
      obtain ⟨⟨t502, t503, t504, t505, t506, t507⟩, A360, H⟩ := H
      replace H : (if (!(t482 == t502) || (!(t483 == t503) || (!(t484 == t504) || (!(t485 == t505) || (!(t486 == t506) || (!(t487 == t507))))))) = true then (curtilagelaw02_CapMakes.j0 k a1 a2 t473 t474 true a0_0 a0_1 a0_2 a0_3 a0_4 a0_5) else ((curtilageref02_Root.f a1).bind fun bt508 => (curtilagelaw02_CapMakes.j0 k a1 a2 t473 t474 (!(t489 == bt508.1) || (!(t490 == bt508.2.1) || (!(t491 == bt508.2.2.1) || (!(t492 == bt508.2.2.2.1) || (!(t493 == bt508.2.2.2.2.1) || (!(t494 == bt508.2.2.2.2.2))))))) a0_0 a0_1 a0_2 a0_3 a0_4 a0_5))) = some r := H
      have A36 := Aside0.mk A360
      clear A360
      by_cases c37 : (!(t482 == t502) || (!(t483 == t503) || (!(t484 == t504) || (!(t485 == t505) || (!(t486 == t506) || (!(t487 == t507))))))) = true
      · rw [if_pos c37] at H
        have c37b0 : (!(t482 == t502) || (!(t483 == t503) || (!(t484 == t504) || (!(t485 == t505) || (!(t486 == t506) || (!(t487 == t507))))))) = true := c37
        clear c37
        have H' := Aside0.mk H
        clear H
        try go_wp2
        have n0_ := Aside0.mk (blk_drew BK472.out)
        have n1_ := Aside0.mk (blk_drew BK481.out)
        have n2_ := Aside0.mk (blk_drew BK488.out)
        have n3_ := Aside0.mk (blk_drew BK495.out)
        have n4_ := Aside0.mk (below_drew1 HB.out)
        clear BK472
        clear BK481
        clear BK488
        clear BK495
        clear HB
        have BK472 := n0_
        have BK481 := n1_
        have BK488 := n2_
        have BK495 := n3_
        have HB := n4_
        clear n0_ n1_ n2_ n3_ n4_
        refine start_ (n := 15) (S := fun w' => w'.cell? ⟨gb481, 0, none⟩ = some (.int .u64 t475) ∧ w'.cell? ⟨gb481, 1, none⟩ = some (.int .u64 t476) ∧ w'.cell? ⟨gb481, 2, none⟩ = some (.int .u64 t477) ∧ w'.cell? ⟨gb481, 3, none⟩ = some (.int .i64 t478) ∧ w'.cell? ⟨gb481, 4, none⟩ = some (.int .i64 t479) ∧ w'.cell? ⟨gb481, 5, none⟩ = some (.bool t480) ∧ w'.cell? ⟨gb488, 0, none⟩ = some (.int .u64 t482) ∧ w'.cell? ⟨gb488, 1, none⟩ = some (.int .u64 t483) ∧ w'.cell? ⟨gb488, 2, none⟩ = some (.int .u64 t484) ∧ w'.cell? ⟨gb488, 3, none⟩ = some (.int .i64 t485) ∧ w'.cell? ⟨gb488, 4, none⟩ = some (.int .i64 t486) ∧ w'.cell? ⟨gb488, 5, none⟩ = some (.bool t487)) (ds := []) #[false, false, false, false, false, false, false, false, false, false, false, false, false, false, false] (by kernel_rfl) rfl rfl ⟨(blk_cell BK481.out 0).trans rfl, (blk_cell BK481.out 1).trans rfl, (blk_cell BK481.out 2).trans rfl, (blk_cell BK481.out 3).trans rfl, (blk_cell BK481.out 4).trans rfl, (blk_cell BK481.out 5).trans rfl, (blk_cell BK488.out 0).trans rfl, (blk_cell BK488.out 1).trans rfl, (blk_cell BK488.out 2).trans rfl, (blk_cell BK488.out 3).trans rfl, (blk_cell BK488.out 4).trans rfl, (blk_cell BK488.out 5).trans rfl⟩ (fun hHeld => ?_); refine with_tabW curtilagelaw02_CapMakes.tab6 curtilagelaw02_CapMakes.bits6 (fun HT_ HW_ => ?_)
        generalize w31.drew = w38 at BK472 BK481 BK488 BK495 HB hHeld ⊢
        refine pure_ (i := 1) (N := some 25) (v := ?_) (a' := ?_) #[false, true, false, false, false, false, false, false, false, false, false, false, false, false, false] rfl rfl (any_of HT_.out (by kernel_rfl)) (fun _ _ _ h => h) (Or.inl ⟨by rfl, ?_⟩) ?_ ?_
        rotate_left
        · intro w'
          go_simp
          with_reducible rfl
        rotate_left
        · simp only [Act.put, List.setIfInBounds_toArray, List.set_cons_zero, List.set_cons_succ, i64_w, i32_w]
          rfl
        refine take_ (i := 0) (N := some 24) (v := ?_) (a' := ?_) #[true, true, false, false, false, false, false, false, false, false, false, false, false, false, false] rfl rfl (take_ofW HT_.out HW_.out (by kernel_rfl)) (fun _ _ _ h => h) (Or.inl ⟨by rfl, ?_⟩) hHeld ?_ ?_
        rotate_left
        · rintro w' ⟨s0, s1, s2, s3, s4, s5, s6, s7, s8, s9, s10, s11⟩
          go_simp
          with_reducible rfl
        rotate_left
        · simp only [Act.put, List.setIfInBounds_toArray, List.set_cons_zero, List.set_cons_succ, i64_w, i32_w]
          rfl
        refine one_ (i := 2) (N := some 26) #[true, true, true, false, false, false, false, false, false, false, false, false, false, false, false] rfl rfl (one_of HT_.out (by kernel_rfl)) (by decide) (fun K hK => ?_)
        refine goes_ Tryd.func24 (by kernel_rfl) rfl #[.int .u64 a1] (by rfl) rfl rfl (by (try simp only [List.map_toArray, List.map_cons, List.map_nil]); first | done | rfl | (simp only [List.length_drop, List.length_take]; rfl)) ?_
        with_reducible refine (curtilageref02_Int.calls a1 t496 t497 t498 t499 t500 t501 _ A32.out).mono ?_
        rintro e w39 ⟨rfl, hb⟩
        refine ⟨_, rfl, ?_⟩
        have n0_ := Aside0.mk (blk_below (g := gb472) (o := .cells #[.int .u64 a0_0, .int .u64 a0_1, .int .u64 a0_2, .int .i64 a0_3, .int .i64 a0_4, .bool a0_5] 24 (0, 0)) (by (with_reducible repeat (first | refine blk_drewN ?_ _ | refine blk_drew ?_ | refine blk_alloc ?_ _)); exact BK472.out) hb)
        have n1_ := Aside0.mk (blk_below (g := gb481) (o := .cells #[.int .u64 t475, .int .u64 t476, .int .u64 t477, .int .i64 t478, .int .i64 t479, .bool t480] 24 (0, 0)) (by (with_reducible repeat (first | refine blk_drewN ?_ _ | refine blk_drew ?_ | refine blk_alloc ?_ _)); exact BK481.out) hb)
        have n2_ := Aside0.mk (blk_below (g := gb488) (o := .cells #[.int .u64 t482, .int .u64 t483, .int .u64 t484, .int .i64 t485, .int .i64 t486, .bool t487] 24 (0, 0)) (by (with_reducible repeat (first | refine blk_drewN ?_ _ | refine blk_drew ?_ | refine blk_alloc ?_ _)); exact BK488.out) hb)
        have n3_ := Aside0.mk (blk_below (g := gb495) (o := .cells #[.int .u64 t489, .int .u64 t490, .int .u64 t491, .int .i64 t492, .int .i64 t493, .bool t494] 24 (0, 0)) (by (with_reducible repeat (first | refine blk_drewN ?_ _ | refine blk_drew ?_ | refine blk_alloc ?_ _)); exact BK495.out) hb)
        have n4_ := Aside0.mk (below_step (by repeat (first | (with_reducible first | exact HB.out | apply below_alloc | apply pw_below_drewN | apply below_drew1 | refine below_set ?_ GE472.out | refine below_set ?_ GE481.out | refine below_set ?_ GE488.out | refine below_set ?_ GE495.out) | exact HB.out)) hb)
        clear BK472
        clear BK481
        clear BK488
        clear BK495
        clear HB
        have BK472 := n0_
        have BK481 := n1_
        have BK488 := n2_
        have BK495 := n3_
        have HB := n4_
        clear n0_ n1_ n2_ n3_ n4_
        (try clear hb)
        (try clear hb2)
        (try clear hk)
        (try clear hi)
        refine hK.out _ _ ⟨(blk_cell BK481.out 0).trans rfl, (blk_cell BK481.out 1).trans rfl, (blk_cell BK481.out 2).trans rfl, (blk_cell BK481.out 3).trans rfl, (blk_cell BK481.out 4).trans rfl, (blk_cell BK481.out 5).trans rfl, (blk_cell BK488.out 0).trans rfl, (blk_cell BK488.out 1).trans rfl, (blk_cell BK488.out 2).trans rfl, (blk_cell BK488.out 3).trans rfl, (blk_cell BK488.out 4).trans rfl, (blk_cell BK488.out 5).trans rfl⟩ (fun hHeld => ?_)
        clear hK K
        refine norm_ (a' := ?_) ?_ ?_
        rotate_left
        · show Act.put _ (some 26) _ = _
          simp only [Act.put, List.setIfInBounds_toArray, List.set_cons_zero, List.set_cons_succ, i64_w, i32_w]
          rfl
        refine pure_ (i := 3) (N := some 27) (v := ?_) (a' := ?_) #[true, true, true, true, false, false, false, false, false, false, false, false, false, false, false] rfl rfl (any_of HT_.out (by kernel_rfl)) (fun _ _ _ h => h) (Or.inl ⟨by rfl, ?_⟩) ?_ ?_
        rotate_left
        · intro w'
          go_simp
          first | (rw [c37b0]; done) | (rw [c37b0]; with_reducible rfl) | (have h_ := c37b0; simp only [beq_true, beq_false, Bool.not_not] at h_; rw [h_]; done) | (have h_ := c37b0; simp only [beq_true, beq_false, Bool.not_not] at h_; rw [h_]; with_reducible rfl) | (with_reducible rfl)
        rotate_left
        · simp only [Act.put, List.setIfInBounds_toArray, List.set_cons_zero, List.set_cons_succ, i64_w, i32_w]
          rfl
        refine pure_ (i := 4) (N := some 28) (v := ?_) (a' := ?_) #[true, true, true, true, true, false, false, false, false, false, false, false, false, false, false] rfl rfl (any_of HT_.out (by kernel_rfl)) (fun _ _ _ h => h) (Or.inl ⟨by rfl, ?_⟩) ?_ ?_
        rotate_left
        · intro w'
          go_simp
          with_reducible rfl
        rotate_left
        · simp only [Act.put, List.setIfInBounds_toArray, List.set_cons_zero, List.set_cons_succ, i64_w, i32_w]
          rfl
        refine take_ (i := 5) (N := some 29) (v := ?_) (a' := ?_) #[true, true, true, true, true, true, false, false, false, false, false, false, false, false, false] rfl rfl (take_ofW HT_.out HW_.out (by kernel_rfl)) (fun _ _ _ h => h) (Or.inl ⟨by rfl, ?_⟩) hHeld ?_ ?_
        rotate_left
        · rintro w' ⟨s0, s1, s2, s3, s4, s5, s6, s7, s8, s9, s10, s11⟩
          go_simp
          with_reducible rfl
        rotate_left
        · simp only [Act.put, List.setIfInBounds_toArray, List.set_cons_zero, List.set_cons_succ, i64_w, i32_w]
          rfl
        refine one_ (i := 6) (N := some 30) #[true, true, true, true, true, true, true, false, false, false, false, false, false, false, false] rfl rfl (one_of HT_.out (by kernel_rfl)) (by decide) (fun K hK => ?_)
        refine goes_ Tryd.func24 (by kernel_rfl) rfl #[.int .u64 0] (by rfl) rfl rfl (by (try simp only [List.map_toArray, List.map_cons, List.map_nil]); first | done | rfl | (simp only [List.length_drop, List.length_take]; rfl)) ?_
        with_reducible refine (curtilageref02_Int.calls 0 t502 t503 t504 t505 t506 t507 _ A36.out).mono ?_
        rintro e w40 ⟨rfl, hb⟩
        refine ⟨_, rfl, ?_⟩
        have n0_ := Aside0.mk (blk_below (g := gb472) (o := .cells #[.int .u64 a0_0, .int .u64 a0_1, .int .u64 a0_2, .int .i64 a0_3, .int .i64 a0_4, .bool a0_5] 24 (0, 0)) (by (with_reducible repeat (first | refine blk_drewN ?_ _ | refine blk_drew ?_ | refine blk_alloc ?_ _)); exact BK472.out) hb)
        have n1_ := Aside0.mk (blk_below (g := gb481) (o := .cells #[.int .u64 t475, .int .u64 t476, .int .u64 t477, .int .i64 t478, .int .i64 t479, .bool t480] 24 (0, 0)) (by (with_reducible repeat (first | refine blk_drewN ?_ _ | refine blk_drew ?_ | refine blk_alloc ?_ _)); exact BK481.out) hb)
        have n2_ := Aside0.mk (blk_below (g := gb488) (o := .cells #[.int .u64 t482, .int .u64 t483, .int .u64 t484, .int .i64 t485, .int .i64 t486, .bool t487] 24 (0, 0)) (by (with_reducible repeat (first | refine blk_drewN ?_ _ | refine blk_drew ?_ | refine blk_alloc ?_ _)); exact BK488.out) hb)
        have n3_ := Aside0.mk (blk_below (g := gb495) (o := .cells #[.int .u64 t489, .int .u64 t490, .int .u64 t491, .int .i64 t492, .int .i64 t493, .bool t494] 24 (0, 0)) (by (with_reducible repeat (first | refine blk_drewN ?_ _ | refine blk_drew ?_ | refine blk_alloc ?_ _)); exact BK495.out) hb)
        have n4_ := Aside0.mk (below_step (by repeat (first | (with_reducible first | exact HB.out | apply below_alloc | apply pw_below_drewN | apply below_drew1 | refine below_set ?_ GE472.out | refine below_set ?_ GE481.out | refine below_set ?_ GE488.out | refine below_set ?_ GE495.out) | exact HB.out)) hb)
        clear BK472
        clear BK481
        clear BK488
        clear BK495
        clear HB
        have BK472 := n0_
        have BK481 := n1_
        have BK488 := n2_
        have BK495 := n3_
        have HB := n4_
        clear n0_ n1_ n2_ n3_ n4_
        (try clear hb)
        (try clear hb2)
        (try clear hk)
        (try clear hi)
        refine hK.out _ _ ⟨(blk_cell BK481.out 0).trans rfl, (blk_cell BK481.out 1).trans rfl, (blk_cell BK481.out 2).trans rfl, (blk_cell BK481.out 3).trans rfl, (blk_cell BK481.out 4).trans rfl, (blk_cell BK481.out 5).trans rfl, (blk_cell BK488.out 0).trans rfl, (blk_cell BK488.out 1).trans rfl, (blk_cell BK488.out 2).trans rfl, (blk_cell BK488.out 3).trans rfl, (blk_cell BK488.out 4).trans rfl, (blk_cell BK488.out 5).trans rfl⟩ (fun hHeld => ?_)
        clear hK K
        refine norm_ (a' := ?_) ?_ ?_
        rotate_left
        · show Act.put _ (some 30) _ = _
          simp only [Act.put, List.setIfInBounds_toArray, List.set_cons_zero, List.set_cons_succ, i64_w, i32_w]
          rfl
        refine pure_ (i := 7) (N := some 31) (v := ?_) (a' := ?_) #[true, true, true, true, true, true, true, true, false, false, false, false, false, false, false] rfl rfl (any_of HT_.out (by kernel_rfl)) (fun _ _ _ h => h) (Or.inl ⟨by rfl, ?_⟩) ?_ ?_
        rotate_left
        · intro w'
          go_simp
          first | (rw [c37b0]; done) | (rw [c37b0]; with_reducible rfl) | (have h_ := c37b0; simp only [beq_true, beq_false, Bool.not_not] at h_; rw [h_]; done) | (have h_ := c37b0; simp only [beq_true, beq_false, Bool.not_not] at h_; rw [h_]; with_reducible rfl) | (with_reducible rfl)
        rotate_left
        · simp only [Act.put, List.setIfInBounds_toArray, List.set_cons_zero, List.set_cons_succ, i64_w, i32_w]
          rfl
        refine pure_ (i := 8) (N := some 32) (v := ?_) (a' := ?_) #[true, true, true, true, true, true, true, true, true, false, false, false, false, false, false] rfl rfl (any_of HT_.out (by kernel_rfl)) (fun _ _ _ h => h) (Or.inl ⟨by rfl, ?_⟩) ?_ ?_
        rotate_left
        · intro w'
          go_simp
          with_reducible rfl
        rotate_left
        · simp only [Act.put, List.setIfInBounds_toArray, List.set_cons_zero, List.set_cons_succ, i64_w, i32_w]
          rfl
        refine pure_ (i := 9) (N := some 33) (v := ?_) (a' := ?_) #[true, true, true, true, true, true, true, true, true, true, false, false, false, false, false] rfl rfl (any_of HT_.out (by kernel_rfl)) (fun _ _ _ h => h) (Or.inl ⟨by rfl, ?_⟩) ?_ ?_
        rotate_left
        · intro w'
          go_simp
          with_reducible rfl
        rotate_left
        · simp only [Act.put, List.setIfInBounds_toArray, List.set_cons_zero, List.set_cons_succ, i64_w, i32_w]
          rfl
        refine pure_ (i := 10) (N := some 34) (v := undef) (a' := ?_) #[true, true, true, true, true, true, true, true, true, true, true, false, false, false, false] rfl rfl (any_of HT_.out (by kernel_rfl)) (fun _ _ _ h => h) (Or.inr ⟨by rfl, rfl⟩) ?_ ?_
        rotate_left
        · simp only [Act.put, List.setIfInBounds_toArray, List.set_cons_zero, List.set_cons_succ, i64_w, i32_w]
          rfl
        refine pure_ (i := 11) (N := some 35) (v := undef) (a' := ?_) #[true, true, true, true, true, true, true, true, true, true, true, true, false, false, false] rfl rfl (any_of HT_.out (by kernel_rfl)) (fun _ _ _ h => h) (Or.inr ⟨by rfl, rfl⟩) ?_ ?_
        rotate_left
        · simp only [Act.put, List.setIfInBounds_toArray, List.set_cons_zero, List.set_cons_succ, i64_w, i32_w]
          rfl
        refine pure_ (i := 12) (N := some 36) (v := undef) (a' := ?_) #[true, true, true, true, true, true, true, true, true, true, true, true, true, false, false] rfl rfl (any_of HT_.out (by kernel_rfl)) (fun _ _ _ h => h) (Or.inr ⟨by rfl, rfl⟩) ?_ ?_
        rotate_left
        · simp only [Act.put, List.setIfInBounds_toArray, List.set_cons_zero, List.set_cons_succ, i64_w, i32_w]
          rfl
        refine pure_ (i := 13) (N := some 37) (v := undef) (a' := ?_) #[true, true, true, true, true, true, true, true, true, true, true, true, true, true, false] rfl rfl (any_of HT_.out (by kernel_rfl)) (fun _ _ _ h => h) (Or.inr ⟨by rfl, rfl⟩) ?_ ?_
        rotate_left
        · simp only [Act.put, List.setIfInBounds_toArray, List.set_cons_zero, List.set_cons_succ, i64_w, i32_w]
          rfl
        refine pure_ (i := 14) (N := some 38) (v := ?_) (a' := ?_) #[true, true, true, true, true, true, true, true, true, true, true, true, true, true, true] rfl rfl (any_of HT_.out (by kernel_rfl)) (fun _ _ _ h => h) (Or.inl ⟨by rfl, ?_⟩) ?_ ?_
        rotate_left
        · intro w'
          go_simp
          with_reducible rfl
        rotate_left
        · simp only [Act.put, List.setIfInBounds_toArray, List.set_cons_zero, List.set_cons_succ, i64_w, i32_w]
          rfl
        refine done_ (done_of HT_.out (by kernel_rfl)) ?_
        try go_wp2
        go_meet
        case rel => exact ⟨_, (true), (by first | rfl | (simp; done) | (simp [*]; done)), H', ⟨by first | omega | exact Nat.le_refl _⟩, ⟨by (with_reducible repeat (first | refine blk_drewN ?_ _ | refine blk_drew ?_ | refine blk_alloc ?_ _)); exact BK472.out⟩, ⟨by (with_reducible repeat (first | refine blk_drewN ?_ _ | refine blk_drew ?_ | refine blk_alloc ?_ _)); exact BK481.out⟩, ⟨by (with_reducible repeat (first | refine blk_drewN ?_ _ | refine blk_drew ?_ | refine blk_alloc ?_ _)); exact BK488.out⟩, ⟨by (with_reducible repeat (first | refine blk_drewN ?_ _ | refine blk_drew ?_ | refine blk_alloc ?_ _)); exact BK495.out⟩, ⟨by repeat (first | (with_reducible first | exact HB.out | apply below_alloc | apply pw_below_drewN | apply below_drew1 | refine below_set ?_ GE472.out | refine below_set ?_ GE481.out | refine below_set ?_ GE488.out | refine below_set ?_ GE495.out) | exact HB.out)⟩⟩
      · rw [if_neg c37] at H
        have c37b0 : (!(t482 == t502) || (!(t483 == t503) || (!(t484 == t504) || (!(t485 == t505) || (!(t486 == t506) || (!(t487 == t507))))))) = false := by simpa using c37
        clear c37
        replace H := Option.bind_eq_some_iff.mp H
        obtain ⟨⟨t508, t509, t510, t511, t512, t513⟩, A410, H⟩ := H
        replace H : (curtilagelaw02_CapMakes.j0 k a1 a2 t473 t474 (!(t489 == t508) || (!(t490 == t509) || (!(t491 == t510) || (!(t492 == t511) || (!(t493 == t512) || (!(t494 == t513))))))) a0_0 a0_1 a0_2 a0_3 a0_4 a0_5) = some r := H
        have A41 := Aside0.mk A410
        clear A410
        have H' := Aside0.mk H
        clear H
        try go_wp2
        have n0_ := Aside0.mk (blk_drew BK472.out)
        have n1_ := Aside0.mk (blk_drew BK481.out)
        have n2_ := Aside0.mk (blk_drew BK488.out)
        have n3_ := Aside0.mk (blk_drew BK495.out)
        have n4_ := Aside0.mk (below_drew1 HB.out)
        clear BK472
        clear BK481
        clear BK488
        clear BK495
        clear HB
        have BK472 := n0_
        have BK481 := n1_
        have BK488 := n2_
        have BK495 := n3_
        have HB := n4_
        clear n0_ n1_ n2_ n3_ n4_
        refine start_ (n := 15) (S := fun w' => w'.cell? ⟨gb481, 0, none⟩ = some (.int .u64 t475) ∧ w'.cell? ⟨gb481, 1, none⟩ = some (.int .u64 t476) ∧ w'.cell? ⟨gb481, 2, none⟩ = some (.int .u64 t477) ∧ w'.cell? ⟨gb481, 3, none⟩ = some (.int .i64 t478) ∧ w'.cell? ⟨gb481, 4, none⟩ = some (.int .i64 t479) ∧ w'.cell? ⟨gb481, 5, none⟩ = some (.bool t480) ∧ w'.cell? ⟨gb488, 0, none⟩ = some (.int .u64 t482) ∧ w'.cell? ⟨gb488, 1, none⟩ = some (.int .u64 t483) ∧ w'.cell? ⟨gb488, 2, none⟩ = some (.int .u64 t484) ∧ w'.cell? ⟨gb488, 3, none⟩ = some (.int .i64 t485) ∧ w'.cell? ⟨gb488, 4, none⟩ = some (.int .i64 t486) ∧ w'.cell? ⟨gb488, 5, none⟩ = some (.bool t487) ∧ w'.cell? ⟨gb495, 0, none⟩ = some (.int .u64 t489) ∧ w'.cell? ⟨gb495, 1, none⟩ = some (.int .u64 t490) ∧ w'.cell? ⟨gb495, 2, none⟩ = some (.int .u64 t491) ∧ w'.cell? ⟨gb495, 3, none⟩ = some (.int .i64 t492) ∧ w'.cell? ⟨gb495, 4, none⟩ = some (.int .i64 t493) ∧ w'.cell? ⟨gb495, 5, none⟩ = some (.bool t494)) (ds := []) #[false, false, false, false, false, false, false, false, false, false, false, false, false, false, false] (by kernel_rfl) rfl rfl ⟨(blk_cell BK481.out 0).trans rfl, (blk_cell BK481.out 1).trans rfl, (blk_cell BK481.out 2).trans rfl, (blk_cell BK481.out 3).trans rfl, (blk_cell BK481.out 4).trans rfl, (blk_cell BK481.out 5).trans rfl, (blk_cell BK488.out 0).trans rfl, (blk_cell BK488.out 1).trans rfl, (blk_cell BK488.out 2).trans rfl, (blk_cell BK488.out 3).trans rfl, (blk_cell BK488.out 4).trans rfl, (blk_cell BK488.out 5).trans rfl, (blk_cell BK495.out 0).trans rfl, (blk_cell BK495.out 1).trans rfl, (blk_cell BK495.out 2).trans rfl, (blk_cell BK495.out 3).trans rfl, (blk_cell BK495.out 4).trans rfl, (blk_cell BK495.out 5).trans rfl⟩ (fun hHeld => ?_); refine with_tabW curtilagelaw02_CapMakes.tab6 curtilagelaw02_CapMakes.bits6 (fun HT_ HW_ => ?_)
        generalize w31.drew = w42 at BK472 BK481 BK488 BK495 HB hHeld ⊢
        refine pure_ (i := 1) (N := some 25) (v := ?_) (a' := ?_) #[false, true, false, false, false, false, false, false, false, false, false, false, false, false, false] rfl rfl (any_of HT_.out (by kernel_rfl)) (fun _ _ _ h => h) (Or.inl ⟨by rfl, ?_⟩) ?_ ?_
        rotate_left
        · intro w'
          go_simp
          with_reducible rfl
        rotate_left
        · simp only [Act.put, List.setIfInBounds_toArray, List.set_cons_zero, List.set_cons_succ, i64_w, i32_w]
          rfl
        refine take_ (i := 0) (N := some 24) (v := ?_) (a' := ?_) #[true, true, false, false, false, false, false, false, false, false, false, false, false, false, false] rfl rfl (take_ofW HT_.out HW_.out (by kernel_rfl)) (fun _ _ _ h => h) (Or.inl ⟨by rfl, ?_⟩) hHeld ?_ ?_
        rotate_left
        · rintro w' ⟨s0, s1, s2, s3, s4, s5, s6, s7, s8, s9, s10, s11, s12, s13, s14, s15, s16, s17⟩
          go_simp
          with_reducible rfl
        rotate_left
        · simp only [Act.put, List.setIfInBounds_toArray, List.set_cons_zero, List.set_cons_succ, i64_w, i32_w]
          rfl
        refine one_ (i := 2) (N := some 26) #[true, true, true, false, false, false, false, false, false, false, false, false, false, false, false] rfl rfl (one_of HT_.out (by kernel_rfl)) (by decide) (fun K hK => ?_)
        refine goes_ Tryd.func24 (by kernel_rfl) rfl #[.int .u64 a1] (by rfl) rfl rfl (by (try simp only [List.map_toArray, List.map_cons, List.map_nil]); first | done | rfl | (simp only [List.length_drop, List.length_take]; rfl)) ?_
        with_reducible refine (curtilageref02_Int.calls a1 t496 t497 t498 t499 t500 t501 _ A32.out).mono ?_
        rintro e w43 ⟨rfl, hb⟩
        refine ⟨_, rfl, ?_⟩
        have n0_ := Aside0.mk (blk_below (g := gb472) (o := .cells #[.int .u64 a0_0, .int .u64 a0_1, .int .u64 a0_2, .int .i64 a0_3, .int .i64 a0_4, .bool a0_5] 24 (0, 0)) (by (with_reducible repeat (first | refine blk_drewN ?_ _ | refine blk_drew ?_ | refine blk_alloc ?_ _)); exact BK472.out) hb)
        have n1_ := Aside0.mk (blk_below (g := gb481) (o := .cells #[.int .u64 t475, .int .u64 t476, .int .u64 t477, .int .i64 t478, .int .i64 t479, .bool t480] 24 (0, 0)) (by (with_reducible repeat (first | refine blk_drewN ?_ _ | refine blk_drew ?_ | refine blk_alloc ?_ _)); exact BK481.out) hb)
        have n2_ := Aside0.mk (blk_below (g := gb488) (o := .cells #[.int .u64 t482, .int .u64 t483, .int .u64 t484, .int .i64 t485, .int .i64 t486, .bool t487] 24 (0, 0)) (by (with_reducible repeat (first | refine blk_drewN ?_ _ | refine blk_drew ?_ | refine blk_alloc ?_ _)); exact BK488.out) hb)
        have n3_ := Aside0.mk (blk_below (g := gb495) (o := .cells #[.int .u64 t489, .int .u64 t490, .int .u64 t491, .int .i64 t492, .int .i64 t493, .bool t494] 24 (0, 0)) (by (with_reducible repeat (first | refine blk_drewN ?_ _ | refine blk_drew ?_ | refine blk_alloc ?_ _)); exact BK495.out) hb)
        have n4_ := Aside0.mk (below_step (by repeat (first | (with_reducible first | exact HB.out | apply below_alloc | apply pw_below_drewN | apply below_drew1 | refine below_set ?_ GE472.out | refine below_set ?_ GE481.out | refine below_set ?_ GE488.out | refine below_set ?_ GE495.out) | exact HB.out)) hb)
        clear BK472
        clear BK481
        clear BK488
        clear BK495
        clear HB
        have BK472 := n0_
        have BK481 := n1_
        have BK488 := n2_
        have BK495 := n3_
        have HB := n4_
        clear n0_ n1_ n2_ n3_ n4_
        (try clear hb)
        (try clear hb2)
        (try clear hk)
        (try clear hi)
        refine hK.out _ _ ⟨(blk_cell BK481.out 0).trans rfl, (blk_cell BK481.out 1).trans rfl, (blk_cell BK481.out 2).trans rfl, (blk_cell BK481.out 3).trans rfl, (blk_cell BK481.out 4).trans rfl, (blk_cell BK481.out 5).trans rfl, (blk_cell BK488.out 0).trans rfl, (blk_cell BK488.out 1).trans rfl, (blk_cell BK488.out 2).trans rfl, (blk_cell BK488.out 3).trans rfl, (blk_cell BK488.out 4).trans rfl, (blk_cell BK488.out 5).trans rfl, (blk_cell BK495.out 0).trans rfl, (blk_cell BK495.out 1).trans rfl, (blk_cell BK495.out 2).trans rfl, (blk_cell BK495.out 3).trans rfl, (blk_cell BK495.out 4).trans rfl, (blk_cell BK495.out 5).trans rfl⟩ (fun hHeld => ?_)
        clear hK K
        refine norm_ (a' := ?_) ?_ ?_
        rotate_left
        · show Act.put _ (some 26) _ = _
          simp only [Act.put, List.setIfInBounds_toArray, List.set_cons_zero, List.set_cons_succ, i64_w, i32_w]
          rfl
        refine pure_ (i := 3) (N := some 27) (v := ?_) (a' := ?_) #[true, true, true, true, false, false, false, false, false, false, false, false, false, false, false] rfl rfl (any_of HT_.out (by kernel_rfl)) (fun _ _ _ h => h) (Or.inl ⟨by rfl, ?_⟩) ?_ ?_
        rotate_left
        · intro w'
          go_simp
          first | (rw [c37b0]; done) | (rw [c37b0]; with_reducible rfl) | (have h_ := c37b0; simp only [beq_true, beq_false, Bool.not_not] at h_; rw [h_]; done) | (have h_ := c37b0; simp only [beq_true, beq_false, Bool.not_not] at h_; rw [h_]; with_reducible rfl) | (with_reducible rfl)
        rotate_left
        · simp only [Act.put, List.setIfInBounds_toArray, List.set_cons_zero, List.set_cons_succ, i64_w, i32_w]
          rfl
        refine pure_ (i := 4) (N := some 28) (v := ?_) (a' := ?_) #[true, true, true, true, true, false, false, false, false, false, false, false, false, false, false] rfl rfl (any_of HT_.out (by kernel_rfl)) (fun _ _ _ h => h) (Or.inl ⟨by rfl, ?_⟩) ?_ ?_
        rotate_left
        · intro w'
          go_simp
          with_reducible rfl
        rotate_left
        · simp only [Act.put, List.setIfInBounds_toArray, List.set_cons_zero, List.set_cons_succ, i64_w, i32_w]
          rfl
        refine take_ (i := 5) (N := some 29) (v := ?_) (a' := ?_) #[true, true, true, true, true, true, false, false, false, false, false, false, false, false, false] rfl rfl (take_ofW HT_.out HW_.out (by kernel_rfl)) (fun _ _ _ h => h) (Or.inl ⟨by rfl, ?_⟩) hHeld ?_ ?_
        rotate_left
        · rintro w' ⟨s0, s1, s2, s3, s4, s5, s6, s7, s8, s9, s10, s11, s12, s13, s14, s15, s16, s17⟩
          go_simp
          with_reducible rfl
        rotate_left
        · simp only [Act.put, List.setIfInBounds_toArray, List.set_cons_zero, List.set_cons_succ, i64_w, i32_w]
          rfl
        refine one_ (i := 6) (N := some 30) #[true, true, true, true, true, true, true, false, false, false, false, false, false, false, false] rfl rfl (one_of HT_.out (by kernel_rfl)) (by decide) (fun K hK => ?_)
        refine goes_ Tryd.func24 (by kernel_rfl) rfl #[.int .u64 0] (by rfl) rfl rfl (by (try simp only [List.map_toArray, List.map_cons, List.map_nil]); first | done | rfl | (simp only [List.length_drop, List.length_take]; rfl)) ?_
        with_reducible refine (curtilageref02_Int.calls 0 t502 t503 t504 t505 t506 t507 _ A36.out).mono ?_
        rintro e w44 ⟨rfl, hb⟩
        refine ⟨_, rfl, ?_⟩
        have n0_ := Aside0.mk (blk_below (g := gb472) (o := .cells #[.int .u64 a0_0, .int .u64 a0_1, .int .u64 a0_2, .int .i64 a0_3, .int .i64 a0_4, .bool a0_5] 24 (0, 0)) (by (with_reducible repeat (first | refine blk_drewN ?_ _ | refine blk_drew ?_ | refine blk_alloc ?_ _)); exact BK472.out) hb)
        have n1_ := Aside0.mk (blk_below (g := gb481) (o := .cells #[.int .u64 t475, .int .u64 t476, .int .u64 t477, .int .i64 t478, .int .i64 t479, .bool t480] 24 (0, 0)) (by (with_reducible repeat (first | refine blk_drewN ?_ _ | refine blk_drew ?_ | refine blk_alloc ?_ _)); exact BK481.out) hb)
        have n2_ := Aside0.mk (blk_below (g := gb488) (o := .cells #[.int .u64 t482, .int .u64 t483, .int .u64 t484, .int .i64 t485, .int .i64 t486, .bool t487] 24 (0, 0)) (by (with_reducible repeat (first | refine blk_drewN ?_ _ | refine blk_drew ?_ | refine blk_alloc ?_ _)); exact BK488.out) hb)
        have n3_ := Aside0.mk (blk_below (g := gb495) (o := .cells #[.int .u64 t489, .int .u64 t490, .int .u64 t491, .int .i64 t492, .int .i64 t493, .bool t494] 24 (0, 0)) (by (with_reducible repeat (first | refine blk_drewN ?_ _ | refine blk_drew ?_ | refine blk_alloc ?_ _)); exact BK495.out) hb)
        have n4_ := Aside0.mk (below_step (by repeat (first | (with_reducible first | exact HB.out | apply below_alloc | apply pw_below_drewN | apply below_drew1 | refine below_set ?_ GE472.out | refine below_set ?_ GE481.out | refine below_set ?_ GE488.out | refine below_set ?_ GE495.out) | exact HB.out)) hb)
        clear BK472
        clear BK481
        clear BK488
        clear BK495
        clear HB
        have BK472 := n0_
        have BK481 := n1_
        have BK488 := n2_
        have BK495 := n3_
        have HB := n4_
        clear n0_ n1_ n2_ n3_ n4_
        (try clear hb)
        (try clear hb2)
        (try clear hk)
        (try clear hi)
        refine hK.out _ _ ⟨(blk_cell BK481.out 0).trans rfl, (blk_cell BK481.out 1).trans rfl, (blk_cell BK481.out 2).trans rfl, (blk_cell BK481.out 3).trans rfl, (blk_cell BK481.out 4).trans rfl, (blk_cell BK481.out 5).trans rfl, (blk_cell BK488.out 0).trans rfl, (blk_cell BK488.out 1).trans rfl, (blk_cell BK488.out 2).trans rfl, (blk_cell BK488.out 3).trans rfl, (blk_cell BK488.out 4).trans rfl, (blk_cell BK488.out 5).trans rfl, (blk_cell BK495.out 0).trans rfl, (blk_cell BK495.out 1).trans rfl, (blk_cell BK495.out 2).trans rfl, (blk_cell BK495.out 3).trans rfl, (blk_cell BK495.out 4).trans rfl, (blk_cell BK495.out 5).trans rfl⟩ (fun hHeld => ?_)
        clear hK K
        refine norm_ (a' := ?_) ?_ ?_
        rotate_left
        · show Act.put _ (some 30) _ = _
          simp only [Act.put, List.setIfInBounds_toArray, List.set_cons_zero, List.set_cons_succ, i64_w, i32_w]
          rfl
        refine pure_ (i := 7) (N := some 31) (v := ?_) (a' := ?_) #[true, true, true, true, true, true, true, true, false, false, false, false, false, false, false] rfl rfl (any_of HT_.out (by kernel_rfl)) (fun _ _ _ h => h) (Or.inl ⟨by rfl, ?_⟩) ?_ ?_
        rotate_left
        · intro w'
          go_simp
          first | (rw [c37b0]; done) | (rw [c37b0]; with_reducible rfl) | (have h_ := c37b0; simp only [beq_true, beq_false, Bool.not_not] at h_; rw [h_]; done) | (have h_ := c37b0; simp only [beq_true, beq_false, Bool.not_not] at h_; rw [h_]; with_reducible rfl) | (with_reducible rfl)
        rotate_left
        · simp only [Act.put, List.setIfInBounds_toArray, List.set_cons_zero, List.set_cons_succ, i64_w, i32_w]
          rfl
        refine pure_ (i := 8) (N := some 32) (v := ?_) (a' := ?_) #[true, true, true, true, true, true, true, true, true, false, false, false, false, false, false] rfl rfl (any_of HT_.out (by kernel_rfl)) (fun _ _ _ h => h) (Or.inl ⟨by rfl, ?_⟩) ?_ ?_
        rotate_left
        · intro w'
          go_simp
          with_reducible rfl
        rotate_left
        · simp only [Act.put, List.setIfInBounds_toArray, List.set_cons_zero, List.set_cons_succ, i64_w, i32_w]
          rfl
        refine pure_ (i := 9) (N := some 33) (v := ?_) (a' := ?_) #[true, true, true, true, true, true, true, true, true, true, false, false, false, false, false] rfl rfl (any_of HT_.out (by kernel_rfl)) (fun _ _ _ h => h) (Or.inl ⟨by rfl, ?_⟩) ?_ ?_
        rotate_left
        · intro w'
          go_simp
          with_reducible rfl
        rotate_left
        · simp only [Act.put, List.setIfInBounds_toArray, List.set_cons_zero, List.set_cons_succ, i64_w, i32_w]
          rfl
        refine pure_ (i := 11) (N := some 35) (v := ?_) (a' := ?_) #[true, true, true, true, true, true, true, true, true, true, false, true, false, false, false] rfl rfl (any_of HT_.out (by kernel_rfl)) (fun _ _ _ h => h) (Or.inl ⟨by rfl, ?_⟩) ?_ ?_
        rotate_left
        · intro w'
          go_simp
          with_reducible rfl
        rotate_left
        · simp only [Act.put, List.setIfInBounds_toArray, List.set_cons_zero, List.set_cons_succ, i64_w, i32_w]
          rfl
        refine take_ (i := 10) (N := some 34) (v := ?_) (a' := ?_) #[true, true, true, true, true, true, true, true, true, true, true, true, false, false, false] rfl rfl (take_ofW HT_.out HW_.out (by kernel_rfl)) (fun _ _ _ h => h) (Or.inl ⟨by rfl, ?_⟩) hHeld ?_ ?_
        rotate_left
        · rintro w' ⟨s0, s1, s2, s3, s4, s5, s6, s7, s8, s9, s10, s11, s12, s13, s14, s15, s16, s17⟩
          go_simp
          with_reducible rfl
        rotate_left
        · simp only [Act.put, List.setIfInBounds_toArray, List.set_cons_zero, List.set_cons_succ, i64_w, i32_w]
          rfl
        refine one_ (i := 12) (N := some 36) #[true, true, true, true, true, true, true, true, true, true, true, true, true, false, false] rfl rfl (one_of HT_.out (by kernel_rfl)) (by decide) (fun K hK => ?_)
        refine goes_ Tryd.func25 (by kernel_rfl) rfl #[.int .u64 a1] (by rfl) rfl rfl (by (try simp only [List.map_toArray, List.map_cons, List.map_nil]); first | done | rfl | (simp only [List.length_drop, List.length_take]; rfl)) ?_
        with_reducible refine (curtilageref02_Root.calls a1 t508 t509 t510 t511 t512 t513 _ A41.out).mono ?_
        rintro e w45 ⟨rfl, hb⟩
        refine ⟨_, rfl, ?_⟩
        have n0_ := Aside0.mk (blk_below (g := gb472) (o := .cells #[.int .u64 a0_0, .int .u64 a0_1, .int .u64 a0_2, .int .i64 a0_3, .int .i64 a0_4, .bool a0_5] 24 (0, 0)) (by (with_reducible repeat (first | refine blk_drewN ?_ _ | refine blk_drew ?_ | refine blk_alloc ?_ _)); exact BK472.out) hb)
        have n1_ := Aside0.mk (blk_below (g := gb481) (o := .cells #[.int .u64 t475, .int .u64 t476, .int .u64 t477, .int .i64 t478, .int .i64 t479, .bool t480] 24 (0, 0)) (by (with_reducible repeat (first | refine blk_drewN ?_ _ | refine blk_drew ?_ | refine blk_alloc ?_ _)); exact BK481.out) hb)
        have n2_ := Aside0.mk (blk_below (g := gb488) (o := .cells #[.int .u64 t482, .int .u64 t483, .int .u64 t484, .int .i64 t485, .int .i64 t486, .bool t487] 24 (0, 0)) (by (with_reducible repeat (first | refine blk_drewN ?_ _ | refine blk_drew ?_ | refine blk_alloc ?_ _)); exact BK488.out) hb)
        have n3_ := Aside0.mk (blk_below (g := gb495) (o := .cells #[.int .u64 t489, .int .u64 t490, .int .u64 t491, .int .i64 t492, .int .i64 t493, .bool t494] 24 (0, 0)) (by (with_reducible repeat (first | refine blk_drewN ?_ _ | refine blk_drew ?_ | refine blk_alloc ?_ _)); exact BK495.out) hb)
        have n4_ := Aside0.mk (below_step (by repeat (first | (with_reducible first | exact HB.out | apply below_alloc | apply pw_below_drewN | apply below_drew1 | refine below_set ?_ GE472.out | refine below_set ?_ GE481.out | refine below_set ?_ GE488.out | refine below_set ?_ GE495.out) | exact HB.out)) hb)
        clear BK472
        clear BK481
        clear BK488
        clear BK495
        clear HB
        have BK472 := n0_
        have BK481 := n1_
        have BK488 := n2_
        have BK495 := n3_
        have HB := n4_
        clear n0_ n1_ n2_ n3_ n4_
        (try clear hb)
        (try clear hb2)
        (try clear hk)
        (try clear hi)
        refine hK.out _ _ ⟨(blk_cell BK481.out 0).trans rfl, (blk_cell BK481.out 1).trans rfl, (blk_cell BK481.out 2).trans rfl, (blk_cell BK481.out 3).trans rfl, (blk_cell BK481.out 4).trans rfl, (blk_cell BK481.out 5).trans rfl, (blk_cell BK488.out 0).trans rfl, (blk_cell BK488.out 1).trans rfl, (blk_cell BK488.out 2).trans rfl, (blk_cell BK488.out 3).trans rfl, (blk_cell BK488.out 4).trans rfl, (blk_cell BK488.out 5).trans rfl, (blk_cell BK495.out 0).trans rfl, (blk_cell BK495.out 1).trans rfl, (blk_cell BK495.out 2).trans rfl, (blk_cell BK495.out 3).trans rfl, (blk_cell BK495.out 4).trans rfl, (blk_cell BK495.out 5).trans rfl⟩ (fun hHeld => ?_)
        clear hK K
        refine norm_ (a' := ?_) ?_ ?_
        rotate_left
        · show Act.put _ (some 36) _ = _
          simp only [Act.put, List.setIfInBounds_toArray, List.set_cons_zero, List.set_cons_succ, i64_w, i32_w]
          rfl
        refine pure_ (i := 13) (N := some 37) (v := ?_) (a' := ?_) #[true, true, true, true, true, true, true, true, true, true, true, true, true, true, false] rfl rfl (any_of HT_.out (by kernel_rfl)) (fun _ _ _ h => h) (Or.inl ⟨by rfl, ?_⟩) ?_ ?_
        rotate_left
        · intro w'
          go_simp
          first | (rw [c37b0]; done) | (rw [c37b0]; with_reducible rfl) | (have h_ := c37b0; simp only [beq_true, beq_false, Bool.not_not] at h_; rw [h_]; done) | (have h_ := c37b0; simp only [beq_true, beq_false, Bool.not_not] at h_; rw [h_]; with_reducible rfl) | (with_reducible rfl)
        rotate_left
        · simp only [Act.put, List.setIfInBounds_toArray, List.set_cons_zero, List.set_cons_succ, i64_w, i32_w]
          rfl
        refine pure_ (i := 14) (N := some 38) (v := ?_) (a' := ?_) #[true, true, true, true, true, true, true, true, true, true, true, true, true, true, true] rfl rfl (any_of HT_.out (by kernel_rfl)) (fun _ _ _ h => h) (Or.inl ⟨by rfl, ?_⟩) ?_ ?_
        rotate_left
        · intro w'
          go_simp
          with_reducible rfl
        rotate_left
        · simp only [Act.put, List.setIfInBounds_toArray, List.set_cons_zero, List.set_cons_succ, i64_w, i32_w]
          rfl
        refine done_ (done_of HT_.out (by kernel_rfl)) ?_
        try go_wp2
        go_meet
        case rel => exact ⟨_, ((!(t489 == t508) || (!(t490 == t509) || (!(t491 == t510) || (!(t492 == t511) || (!(t493 == t512) || (!(t494 == t513)))))))), (by first | rfl | (simp; done) | (simp [*]; done)), H', ⟨by first | omega | exact Nat.le_refl _⟩, ⟨by (with_reducible repeat (first | refine blk_drewN ?_ _ | refine blk_drew ?_ | refine blk_alloc ?_ _)); exact BK472.out⟩, ⟨by (with_reducible repeat (first | refine blk_drewN ?_ _ | refine blk_drew ?_ | refine blk_alloc ?_ _)); exact BK481.out⟩, ⟨by (with_reducible repeat (first | refine blk_drewN ?_ _ | refine blk_drew ?_ | refine blk_alloc ?_ _)); exact BK488.out⟩, ⟨by (with_reducible repeat (first | refine blk_drewN ?_ _ | refine blk_drew ?_ | refine blk_alloc ?_ _)); exact BK495.out⟩, ⟨by repeat (first | (with_reducible first | exact HB.out | apply below_alloc | apply pw_below_drewN | apply below_drew1 | refine below_set ?_ GE472.out | refine below_set ?_ GE481.out | refine below_set ?_ GE488.out | refine below_set ?_ GE495.out) | exact HB.out)⟩⟩
  case rest =>
    clear HC9
    try clear c1
    try clear c2
    try clear p2
    try clear c3
    try clear c6
    try clear c10
    try clear c11
    try clear c16
    try clear c21
    try clear c22
    try clear c23
    try clear c24
    try clear c25
    try clear c27
    try clear c28
    try clear c29
    try clear c33
    try clear c33b0
    try clear c37
    try clear c37b0
    try clear hcz12_0
    try clear hcz12_1
    try clear hcz12_2
    try clear hcz12_3
    try clear hcz12_4
    try clear hcz12_5
    try clear hcz17_0
    try clear hcz17_1
    try clear hcz17_2
    try clear hcz17_3
    try clear hcz17_4
    try clear hcz17_5
    try clear hcz23_0
    try clear hcz23_1
    try clear hcz23_2
    try clear hcz23_3
    try clear hcz23_4
    try clear hcz23_5
    try clear hcz30_0
    try clear hcz30_1
    try clear hcz30_2
    try clear hcz30_3
    try clear hcz30_4
    try clear hcz30_5
    try clear hfz12_0
    try clear hfz12_1
    try clear hfz12_2
    try clear hfz12_3
    try clear hfz12_4
    try clear hfz12_5
    try clear hfz17_0
    try clear hfz17_1
    try clear hfz17_2
    try clear hfz17_3
    try clear hfz17_4
    try clear hfz17_5
    try clear hfz23_0
    try clear hfz23_1
    try clear hfz23_2
    try clear hfz23_3
    try clear hfz23_4
    try clear hfz23_5
    try clear hfz30_0
    try clear hfz30_1
    try clear hfz30_2
    try clear hfz30_3
    try clear hfz30_4
    try clear hfz30_5
    obtain ⟨kq, x38_8, rfl, HA, HJ8, BK472, BK481, BK488, BK495, HB⟩ := hcut
    cases kq with
    | zero => exact absurd HA.out (by simp [curtilagelaw02_CapMakes.j0])
    | succ kj8 =>
      have H := HA.out
      clear HA
      simp only [curtilagelaw02_CapMakes.j0] at H
      by_cases c46 : x38_8 = true
      · subst c46
        have H1 : (some false) = some r := by rw [if_pos rfl] at H; exact H
        clear H
        have H := H1
        clear H1
        exact absurd ((Option.some.inj H).trans HT.out) (by decide)
      · replace c46 := Bool.eq_false_iff.mpr c46
        subst c46
        have H1 : (if t474 = true then ((cap_Move.f a0_0 a0_1 a0_2 a0_3 a0_4 a0_5 a1).bind fun bt514 => ((cap_Bound.f a0_0 a0_1 a0_2 a0_3 a0_4 a0_5 a1).bind fun bt521 => ((cap_And.f a0_0 a0_1 a0_2 a0_3 a0_4 a0_5 a2).bind fun bt528 => ((cap_Clear.f a0_0 a0_1 a0_2 a0_3 a0_4 a0_5).bind fun bt535 => (if t473 = true then ((curtilageref02_Move.f a0_0 a0_1 a0_2 a0_3 a0_4 a0_5 a1).bind fun bt542 => (if (bt514.1 == bt542.1 && (bt514.2.1 == bt542.2.1 && (bt514.2.2.1 == bt542.2.2.1 && (bt514.2.2.2.1 == bt542.2.2.2.1 && (bt514.2.2.2.2.1 == bt542.2.2.2.2.1 && (bt514.2.2.2.2.2 == bt542.2.2.2.2.2)))))) = true then ((curtilageref02_Bound.f a0_0 a0_1 a0_2 a0_3 a0_4 a0_5 a1).bind fun bt548 => (if (bt521.1 == bt548.1 && (bt521.2.1 == bt548.2.1 && (bt521.2.2.1 == bt548.2.2.1 && (bt521.2.2.2.1 == bt548.2.2.2.1 && (bt521.2.2.2.2.1 == bt548.2.2.2.2.1 && (bt521.2.2.2.2.2 == bt548.2.2.2.2.2)))))) = true then ((curtilageref02_And.f kj8 a0_0 a0_1 a0_2 a0_3 a0_4 a0_5 a2).bind fun bt554 => (if (bt528.1 == bt554.1 && (bt528.2.1 == bt554.2.1 && (bt528.2.2.1 == bt554.2.2.1 && (bt528.2.2.2.1 == bt554.2.2.2.1 && (bt528.2.2.2.2.1 == bt554.2.2.2.2.1 && (bt528.2.2.2.2.2 == bt554.2.2.2.2.2)))))) = true then ((curtilageref02_Clear.f a0_0 a0_1 a0_2 a0_3 a0_4 a0_5).bind fun bt560 => (some (bt535.1 == bt560.1 && (bt535.2.1 == bt560.2.1 && (bt535.2.2.1 == bt560.2.2.1 && (bt535.2.2.2.1 == bt560.2.2.2.1 && (bt535.2.2.2.2.1 == bt560.2.2.2.2.1 && (bt535.2.2.2.2.2 == bt560.2.2.2.2.2)))))))) else (some false))) else (some false))) else (some false))) else (some false)))))) else (some t473)) = some r := by rw [if_neg (show ¬ (false = true) by decide)] at H; exact H
        clear H
        have H := H1
        clear H1
        by_cases c47 : t474 = true
        · subst c47
          have H1 : ((cap_Move.f a0_0 a0_1 a0_2 a0_3 a0_4 a0_5 a1).bind fun bt514 => ((cap_Bound.f a0_0 a0_1 a0_2 a0_3 a0_4 a0_5 a1).bind fun bt521 => ((cap_And.f a0_0 a0_1 a0_2 a0_3 a0_4 a0_5 a2).bind fun bt528 => ((cap_Clear.f a0_0 a0_1 a0_2 a0_3 a0_4 a0_5).bind fun bt535 => (if t473 = true then ((curtilageref02_Move.f a0_0 a0_1 a0_2 a0_3 a0_4 a0_5 a1).bind fun bt542 => (if (bt514.1 == bt542.1 && (bt514.2.1 == bt542.2.1 && (bt514.2.2.1 == bt542.2.2.1 && (bt514.2.2.2.1 == bt542.2.2.2.1 && (bt514.2.2.2.2.1 == bt542.2.2.2.2.1 && (bt514.2.2.2.2.2 == bt542.2.2.2.2.2)))))) = true then ((curtilageref02_Bound.f a0_0 a0_1 a0_2 a0_3 a0_4 a0_5 a1).bind fun bt548 => (if (bt521.1 == bt548.1 && (bt521.2.1 == bt548.2.1 && (bt521.2.2.1 == bt548.2.2.1 && (bt521.2.2.2.1 == bt548.2.2.2.1 && (bt521.2.2.2.2.1 == bt548.2.2.2.2.1 && (bt521.2.2.2.2.2 == bt548.2.2.2.2.2)))))) = true then ((curtilageref02_And.f kj8 a0_0 a0_1 a0_2 a0_3 a0_4 a0_5 a2).bind fun bt554 => (if (bt528.1 == bt554.1 && (bt528.2.1 == bt554.2.1 && (bt528.2.2.1 == bt554.2.2.1 && (bt528.2.2.2.1 == bt554.2.2.2.1 && (bt528.2.2.2.2.1 == bt554.2.2.2.2.1 && (bt528.2.2.2.2.2 == bt554.2.2.2.2.2)))))) = true then ((curtilageref02_Clear.f a0_0 a0_1 a0_2 a0_3 a0_4 a0_5).bind fun bt560 => (some (bt535.1 == bt560.1 && (bt535.2.1 == bt560.2.1 && (bt535.2.2.1 == bt560.2.2.1 && (bt535.2.2.2.1 == bt560.2.2.2.1 && (bt535.2.2.2.2.1 == bt560.2.2.2.2.1 && (bt535.2.2.2.2.2 == bt560.2.2.2.2.2)))))))) else (some false))) else (some false))) else (some false))) else (some false)))))) = some r := by rw [if_pos rfl] at H; exact H
          clear H
          have H := H1
          clear H1
          replace H := Option.bind_eq_some_iff.mp H
          obtain ⟨⟨t514, t515, t516, t517, t518, t519⟩, A480, H⟩ := H
          replace H : ((cap_Bound.f a0_0 a0_1 a0_2 a0_3 a0_4 a0_5 a1).bind fun bt521 => ((cap_And.f a0_0 a0_1 a0_2 a0_3 a0_4 a0_5 a2).bind fun bt528 => ((cap_Clear.f a0_0 a0_1 a0_2 a0_3 a0_4 a0_5).bind fun bt535 => (if t473 = true then ((curtilageref02_Move.f a0_0 a0_1 a0_2 a0_3 a0_4 a0_5 a1).bind fun bt542 => (if (t514 == bt542.1 && (t515 == bt542.2.1 && (t516 == bt542.2.2.1 && (t517 == bt542.2.2.2.1 && (t518 == bt542.2.2.2.2.1 && (t519 == bt542.2.2.2.2.2)))))) = true then ((curtilageref02_Bound.f a0_0 a0_1 a0_2 a0_3 a0_4 a0_5 a1).bind fun bt548 => (if (bt521.1 == bt548.1 && (bt521.2.1 == bt548.2.1 && (bt521.2.2.1 == bt548.2.2.1 && (bt521.2.2.2.1 == bt548.2.2.2.1 && (bt521.2.2.2.2.1 == bt548.2.2.2.2.1 && (bt521.2.2.2.2.2 == bt548.2.2.2.2.2)))))) = true then ((curtilageref02_And.f kj8 a0_0 a0_1 a0_2 a0_3 a0_4 a0_5 a2).bind fun bt554 => (if (bt528.1 == bt554.1 && (bt528.2.1 == bt554.2.1 && (bt528.2.2.1 == bt554.2.2.1 && (bt528.2.2.2.1 == bt554.2.2.2.1 && (bt528.2.2.2.2.1 == bt554.2.2.2.2.1 && (bt528.2.2.2.2.2 == bt554.2.2.2.2.2)))))) = true then ((curtilageref02_Clear.f a0_0 a0_1 a0_2 a0_3 a0_4 a0_5).bind fun bt560 => (some (bt535.1 == bt560.1 && (bt535.2.1 == bt560.2.1 && (bt535.2.2.1 == bt560.2.2.1 && (bt535.2.2.2.1 == bt560.2.2.2.1 && (bt535.2.2.2.2.1 == bt560.2.2.2.2.1 && (bt535.2.2.2.2.2 == bt560.2.2.2.2.2)))))))) else (some false))) else (some false))) else (some false))) else (some false))))) = some r := H
          have A48 := Aside0.mk A480
          clear A480
          replace H := Option.bind_eq_some_iff.mp H
          obtain ⟨⟨t521, t522, t523, t524, t525, t526⟩, A490, H⟩ := H
          replace H : ((cap_And.f a0_0 a0_1 a0_2 a0_3 a0_4 a0_5 a2).bind fun bt528 => ((cap_Clear.f a0_0 a0_1 a0_2 a0_3 a0_4 a0_5).bind fun bt535 => (if t473 = true then ((curtilageref02_Move.f a0_0 a0_1 a0_2 a0_3 a0_4 a0_5 a1).bind fun bt542 => (if (t514 == bt542.1 && (t515 == bt542.2.1 && (t516 == bt542.2.2.1 && (t517 == bt542.2.2.2.1 && (t518 == bt542.2.2.2.2.1 && (t519 == bt542.2.2.2.2.2)))))) = true then ((curtilageref02_Bound.f a0_0 a0_1 a0_2 a0_3 a0_4 a0_5 a1).bind fun bt548 => (if (t521 == bt548.1 && (t522 == bt548.2.1 && (t523 == bt548.2.2.1 && (t524 == bt548.2.2.2.1 && (t525 == bt548.2.2.2.2.1 && (t526 == bt548.2.2.2.2.2)))))) = true then ((curtilageref02_And.f kj8 a0_0 a0_1 a0_2 a0_3 a0_4 a0_5 a2).bind fun bt554 => (if (bt528.1 == bt554.1 && (bt528.2.1 == bt554.2.1 && (bt528.2.2.1 == bt554.2.2.1 && (bt528.2.2.2.1 == bt554.2.2.2.1 && (bt528.2.2.2.2.1 == bt554.2.2.2.2.1 && (bt528.2.2.2.2.2 == bt554.2.2.2.2.2)))))) = true then ((curtilageref02_Clear.f a0_0 a0_1 a0_2 a0_3 a0_4 a0_5).bind fun bt560 => (some (bt535.1 == bt560.1 && (bt535.2.1 == bt560.2.1 && (bt535.2.2.1 == bt560.2.2.1 && (bt535.2.2.2.1 == bt560.2.2.2.1 && (bt535.2.2.2.2.1 == bt560.2.2.2.2.1 && (bt535.2.2.2.2.2 == bt560.2.2.2.2.2)))))))) else (some false))) else (some false))) else (some false))) else (some false)))) = some r := H
          have A49 := Aside0.mk A490
          clear A490
          replace H := Option.bind_eq_some_iff.mp H
          obtain ⟨⟨t528, t529, t530, t531, t532, t533⟩, A500, H⟩ := H
          replace H : ((cap_Clear.f a0_0 a0_1 a0_2 a0_3 a0_4 a0_5).bind fun bt535 => (if t473 = true then ((curtilageref02_Move.f a0_0 a0_1 a0_2 a0_3 a0_4 a0_5 a1).bind fun bt542 => (if (t514 == bt542.1 && (t515 == bt542.2.1 && (t516 == bt542.2.2.1 && (t517 == bt542.2.2.2.1 && (t518 == bt542.2.2.2.2.1 && (t519 == bt542.2.2.2.2.2)))))) = true then ((curtilageref02_Bound.f a0_0 a0_1 a0_2 a0_3 a0_4 a0_5 a1).bind fun bt548 => (if (t521 == bt548.1 && (t522 == bt548.2.1 && (t523 == bt548.2.2.1 && (t524 == bt548.2.2.2.1 && (t525 == bt548.2.2.2.2.1 && (t526 == bt548.2.2.2.2.2)))))) = true then ((curtilageref02_And.f kj8 a0_0 a0_1 a0_2 a0_3 a0_4 a0_5 a2).bind fun bt554 => (if (t528 == bt554.1 && (t529 == bt554.2.1 && (t530 == bt554.2.2.1 && (t531 == bt554.2.2.2.1 && (t532 == bt554.2.2.2.2.1 && (t533 == bt554.2.2.2.2.2)))))) = true then ((curtilageref02_Clear.f a0_0 a0_1 a0_2 a0_3 a0_4 a0_5).bind fun bt560 => (some (bt535.1 == bt560.1 && (bt535.2.1 == bt560.2.1 && (bt535.2.2.1 == bt560.2.2.1 && (bt535.2.2.2.1 == bt560.2.2.2.1 && (bt535.2.2.2.2.1 == bt560.2.2.2.2.1 && (bt535.2.2.2.2.2 == bt560.2.2.2.2.2)))))))) else (some false))) else (some false))) else (some false))) else (some false))) = some r := H
          have A50 := Aside0.mk A500
          clear A500
          replace H := Option.bind_eq_some_iff.mp H
          obtain ⟨⟨t535, t536, t537, t538, t539, t540⟩, A510, H⟩ := H
          replace H : (if t473 = true then ((curtilageref02_Move.f a0_0 a0_1 a0_2 a0_3 a0_4 a0_5 a1).bind fun bt542 => (if (t514 == bt542.1 && (t515 == bt542.2.1 && (t516 == bt542.2.2.1 && (t517 == bt542.2.2.2.1 && (t518 == bt542.2.2.2.2.1 && (t519 == bt542.2.2.2.2.2)))))) = true then ((curtilageref02_Bound.f a0_0 a0_1 a0_2 a0_3 a0_4 a0_5 a1).bind fun bt548 => (if (t521 == bt548.1 && (t522 == bt548.2.1 && (t523 == bt548.2.2.1 && (t524 == bt548.2.2.2.1 && (t525 == bt548.2.2.2.2.1 && (t526 == bt548.2.2.2.2.2)))))) = true then ((curtilageref02_And.f kj8 a0_0 a0_1 a0_2 a0_3 a0_4 a0_5 a2).bind fun bt554 => (if (t528 == bt554.1 && (t529 == bt554.2.1 && (t530 == bt554.2.2.1 && (t531 == bt554.2.2.2.1 && (t532 == bt554.2.2.2.2.1 && (t533 == bt554.2.2.2.2.2)))))) = true then ((curtilageref02_Clear.f a0_0 a0_1 a0_2 a0_3 a0_4 a0_5).bind fun bt560 => (some (t535 == bt560.1 && (t536 == bt560.2.1 && (t537 == bt560.2.2.1 && (t538 == bt560.2.2.2.1 && (t539 == bt560.2.2.2.2.1 && (t540 == bt560.2.2.2.2.2)))))))) else (some false))) else (some false))) else (some false))) else (some false)) = some r := H
          have A51 := Aside0.mk A510
          clear A510
          by_cases c52 : t473 = true
          · subst c52
            have H1 : ((curtilageref02_Move.f a0_0 a0_1 a0_2 a0_3 a0_4 a0_5 a1).bind fun bt542 => (if (t514 == bt542.1 && (t515 == bt542.2.1 && (t516 == bt542.2.2.1 && (t517 == bt542.2.2.2.1 && (t518 == bt542.2.2.2.2.1 && (t519 == bt542.2.2.2.2.2)))))) = true then ((curtilageref02_Bound.f a0_0 a0_1 a0_2 a0_3 a0_4 a0_5 a1).bind fun bt548 => (if (t521 == bt548.1 && (t522 == bt548.2.1 && (t523 == bt548.2.2.1 && (t524 == bt548.2.2.2.1 && (t525 == bt548.2.2.2.2.1 && (t526 == bt548.2.2.2.2.2)))))) = true then ((curtilageref02_And.f kj8 a0_0 a0_1 a0_2 a0_3 a0_4 a0_5 a2).bind fun bt554 => (if (t528 == bt554.1 && (t529 == bt554.2.1 && (t530 == bt554.2.2.1 && (t531 == bt554.2.2.2.1 && (t532 == bt554.2.2.2.2.1 && (t533 == bt554.2.2.2.2.2)))))) = true then ((curtilageref02_Clear.f a0_0 a0_1 a0_2 a0_3 a0_4 a0_5).bind fun bt560 => (some (t535 == bt560.1 && (t536 == bt560.2.1 && (t537 == bt560.2.2.1 && (t538 == bt560.2.2.2.1 && (t539 == bt560.2.2.2.2.1 && (t540 == bt560.2.2.2.2.2)))))))) else (some false))) else (some false))) else (some false))) = some r := by rw [if_pos rfl] at H; exact H
            clear H
            have H := H1
            clear H1
            replace H := Option.bind_eq_some_iff.mp H
            obtain ⟨⟨t542, t543, t544, t545, t546, t547⟩, A530, H⟩ := H
            replace H : (if (t514 == t542 && (t515 == t543 && (t516 == t544 && (t517 == t545 && (t518 == t546 && (t519 == t547)))))) = true then ((curtilageref02_Bound.f a0_0 a0_1 a0_2 a0_3 a0_4 a0_5 a1).bind fun bt548 => (if (t521 == bt548.1 && (t522 == bt548.2.1 && (t523 == bt548.2.2.1 && (t524 == bt548.2.2.2.1 && (t525 == bt548.2.2.2.2.1 && (t526 == bt548.2.2.2.2.2)))))) = true then ((curtilageref02_And.f kj8 a0_0 a0_1 a0_2 a0_3 a0_4 a0_5 a2).bind fun bt554 => (if (t528 == bt554.1 && (t529 == bt554.2.1 && (t530 == bt554.2.2.1 && (t531 == bt554.2.2.2.1 && (t532 == bt554.2.2.2.2.1 && (t533 == bt554.2.2.2.2.2)))))) = true then ((curtilageref02_Clear.f a0_0 a0_1 a0_2 a0_3 a0_4 a0_5).bind fun bt560 => (some (t535 == bt560.1 && (t536 == bt560.2.1 && (t537 == bt560.2.2.1 && (t538 == bt560.2.2.2.1 && (t539 == bt560.2.2.2.2.1 && (t540 == bt560.2.2.2.2.2)))))))) else (some false))) else (some false))) else (some false)) = some r := H
            have A53 := Aside0.mk A530
            clear A530
            by_cases c54 : (t514 == t542 && (t515 == t543 && (t516 == t544 && (t517 == t545 && (t518 == t546 && (t519 == t547)))))) = true
            · rw [if_pos c54] at H
              have c54b0 : (t514 == t542 && (t515 == t543 && (t516 == t544 && (t517 == t545 && (t518 == t546 && (t519 == t547)))))) = true := c54
              (try (have c54b1 : decide (t514 = t542 && (t515 == t543 && (t516 == t544 && (t517 == t545 && (t518 == t546 && (t519 == t547)))))) = true := by simpa using c54))
              (try (have c54b2 : (t514 == t542 && (t515 == t543 && (t516 == t544 && (t517 == t545 && (t518 == t546 && (t519 == t547)))))) = true := by simpa using c54))
              clear c54
              replace H := Option.bind_eq_some_iff.mp H
              obtain ⟨⟨t548, t549, t550, t551, t552, t553⟩, A550, H⟩ := H
              replace H : (if (t521 == t548 && (t522 == t549 && (t523 == t550 && (t524 == t551 && (t525 == t552 && (t526 == t553)))))) = true then ((curtilageref02_And.f kj8 a0_0 a0_1 a0_2 a0_3 a0_4 a0_5 a2).bind fun bt554 => (if (t528 == bt554.1 && (t529 == bt554.2.1 && (t530 == bt554.2.2.1 && (t531 == bt554.2.2.2.1 && (t532 == bt554.2.2.2.2.1 && (t533 == bt554.2.2.2.2.2)))))) = true then ((curtilageref02_Clear.f a0_0 a0_1 a0_2 a0_3 a0_4 a0_5).bind fun bt560 => (some (t535 == bt560.1 && (t536 == bt560.2.1 && (t537 == bt560.2.2.1 && (t538 == bt560.2.2.2.1 && (t539 == bt560.2.2.2.2.1 && (t540 == bt560.2.2.2.2.2)))))))) else (some false))) else (some false)) = some r := H
              have A55 := Aside0.mk A550
              clear A550
              by_cases c56 : (t521 == t548 && (t522 == t549 && (t523 == t550 && (t524 == t551 && (t525 == t552 && (t526 == t553)))))) = true
              · rw [if_pos c56] at H
                have c56b0 : (t521 == t548 && (t522 == t549 && (t523 == t550 && (t524 == t551 && (t525 == t552 && (t526 == t553)))))) = true := c56
                (try (have c56b1 : decide (t521 = t548 && (t522 == t549 && (t523 == t550 && (t524 == t551 && (t525 == t552 && (t526 == t553)))))) = true := by simpa using c56))
                (try (have c56b2 : (t521 == t548 && (t522 == t549 && (t523 == t550 && (t524 == t551 && (t525 == t552 && (t526 == t553)))))) = true := by simpa using c56))
                clear c56
                replace H := Option.bind_eq_some_iff.mp H
                obtain ⟨⟨t554, t555, t556, t557, t558, t559⟩, A570, H⟩ := H
                replace H : (if (t528 == t554 && (t529 == t555 && (t530 == t556 && (t531 == t557 && (t532 == t558 && (t533 == t559)))))) = true then ((curtilageref02_Clear.f a0_0 a0_1 a0_2 a0_3 a0_4 a0_5).bind fun bt560 => (some (t535 == bt560.1 && (t536 == bt560.2.1 && (t537 == bt560.2.2.1 && (t538 == bt560.2.2.2.1 && (t539 == bt560.2.2.2.2.1 && (t540 == bt560.2.2.2.2.2)))))))) else (some false)) = some r := H
                have A57 := Aside0.mk A570
                clear A570
                by_cases c58 : (t528 == t554 && (t529 == t555 && (t530 == t556 && (t531 == t557 && (t532 == t558 && (t533 == t559)))))) = true
                · rw [if_pos c58] at H
                  have c58b0 : (t528 == t554 && (t529 == t555 && (t530 == t556 && (t531 == t557 && (t532 == t558 && (t533 == t559)))))) = true := c58
                  (try (have c58b1 : decide (t528 = t554 && (t529 == t555 && (t530 == t556 && (t531 == t557 && (t532 == t558 && (t533 == t559)))))) = true := by simpa using c58))
                  (try (have c58b2 : (t528 == t554 && (t529 == t555 && (t530 == t556 && (t531 == t557 && (t532 == t558 && (t533 == t559)))))) = true := by simpa using c58))
                  clear c58
                  replace H := Option.bind_eq_some_iff.mp H
                  obtain ⟨⟨t560, t561, t562, t563, t564, t565⟩, A590, H⟩ := H
                  replace H : (some (t535 == t560 && (t536 == t561 && (t537 == t562 && (t538 == t563 && (t539 == t564 && (t540 == t565))))))) = some r := H
                  have A59 := Aside0.mk A590
                  clear A590
                  obtain rfl := Option.some.inj H
                  have hnb60 := NB472_481.out
                  have hnc60 := NB481_472.out
                  have hnb61 := NB472_488.out
                  have hnc61 := NB488_472.out
                  have hnb62 := NB472_495.out
                  have hnc62 := NB495_472.out
                  have hcz63_0 : wc.cell? ⟨gb472, 0, none⟩ = some (.int .u64 a0_0) := (blk_cell BK472.out 0).trans rfl
                  have hcz63_1 : wc.cell? ⟨gb472, 1, none⟩ = some (.int .u64 a0_1) := (blk_cell BK472.out 1).trans rfl
                  have hcz63_2 : wc.cell? ⟨gb472, 2, none⟩ = some (.int .u64 a0_2) := (blk_cell BK472.out 2).trans rfl
                  have hcz63_3 : wc.cell? ⟨gb472, 3, none⟩ = some (.int .i64 a0_3) := (blk_cell BK472.out 3).trans rfl
                  have hcz63_4 : wc.cell? ⟨gb472, 4, none⟩ = some (.int .i64 a0_4) := (blk_cell BK472.out 4).trans rfl
                  have hcz63_5 : wc.cell? ⟨gb472, 5, none⟩ = some (.bool a0_5) := (blk_cell BK472.out 5).trans rfl
                  have hfz63_0 := blk_frozen BK472.out 0
                  have hfz63_1 := blk_frozen BK472.out 1
                  have hfz63_2 := blk_frozen BK472.out 2
                  have hfz63_3 := blk_frozen BK472.out 3
                  have hfz63_4 := blk_frozen BK472.out 4
                  have hfz63_5 := blk_frozen BK472.out 5
                  try go_wp2_with (first | ((with_reducible refine gate_dst (N := 44) rfl ?_); (with_reducible refine gate_callee (f := 18) rfl ?_); refine goesL_ (some 44) rfl rfl Tryd.func18 (by kernel_rfl) rfl #[.agg #[.int .u64 a0_0, .int .u64 a0_1, .int .u64 a0_2, .int .i64 a0_3, .int .i64 a0_4, .bool a0_5], .int .u64 a1] rfl (by (try simp only [List.map_toArray, List.map_cons, List.map_nil]); first | done | rfl | (simp only [List.length_drop, List.length_take]; rfl)) ?_; (with_reducible refine (cap_Move.calls a0_0 a0_1 a0_2 a0_3 a0_4 a0_5 a1 t514 t515 t516 t517 t518 t519 _ A48.out).mono ?_); rintro e w64 ⟨rfl, hb⟩; refine ⟨_, rfl, ?_⟩; have n0_ := Aside0.mk (blk_below (g := gb472) (o := .cells #[.int .u64 a0_0, .int .u64 a0_1, .int .u64 a0_2, .int .i64 a0_3, .int .i64 a0_4, .bool a0_5] 24 (0, 0)) (by (with_reducible repeat (first | refine blk_drewN ?_ _ | refine blk_drew ?_ | refine blk_alloc ?_ _)); exact BK472.out) hb); have n1_ := Aside0.mk (blk_below (g := gb481) (o := .cells #[.int .u64 t475, .int .u64 t476, .int .u64 t477, .int .i64 t478, .int .i64 t479, .bool t480] 24 (0, 0)) (by (with_reducible repeat (first | refine blk_drewN ?_ _ | refine blk_drew ?_ | refine blk_alloc ?_ _)); exact BK481.out) hb); have n2_ := Aside0.mk (blk_below (g := gb488) (o := .cells #[.int .u64 t482, .int .u64 t483, .int .u64 t484, .int .i64 t485, .int .i64 t486, .bool t487] 24 (0, 0)) (by (with_reducible repeat (first | refine blk_drewN ?_ _ | refine blk_drew ?_ | refine blk_alloc ?_ _)); exact BK488.out) hb); have n3_ := Aside0.mk (blk_below (g := gb495) (o := .cells #[.int .u64 t489, .int .u64 t490, .int .u64 t491, .int .i64 t492, .int .i64 t493, .bool t494] 24 (0, 0)) (by (with_reducible repeat (first | refine blk_drewN ?_ _ | refine blk_drew ?_ | refine blk_alloc ?_ _)); exact BK495.out) hb); have n4_ := Aside0.mk (below_step (by repeat (first | (with_reducible first | exact HB.out | apply below_alloc | apply pw_below_drewN | apply below_drew1 | refine below_set ?_ GE472.out | refine below_set ?_ GE481.out | refine below_set ?_ GE488.out | refine below_set ?_ GE495.out) | exact HB.out)) hb); clear BK472; clear BK481; clear BK488; clear BK495; clear HB; have BK472 := n0_; have BK481 := n1_; have BK488 := n2_; have BK495 := n3_; have HB := n4_; clear n0_ n1_ n2_ n3_ n4_; (try clear hb); (try clear hb2); (try clear hk); (try clear hi)) | ((with_reducible refine gate_dst (N := 12) rfl ?_); refine box_event ?hg (N := 12) ?hd (cs := #[.int .u64 0, .int .u64 0, .int .u64 0, .int .i64 0, .int .i64 0, .bool false]) (t := 24) ?hr ?_; (case hd => rfl); (case hg => rfl); (case hr => first | (go_simp; done) | (go_simp; rfl)); intro gb520 hg w65 hbox hb; have n0_ := Aside0.mk (blk_below (g := gb472) (o := .cells #[.int .u64 a0_0, .int .u64 a0_1, .int .u64 a0_2, .int .i64 a0_3, .int .i64 a0_4, .bool a0_5] 24 (0, 0)) (by (with_reducible repeat (first | refine blk_drewN ?_ _ | refine blk_drew ?_ | refine blk_alloc ?_ _)); exact BK472.out) hb); have n1_ := Aside0.mk (blk_below (g := gb481) (o := .cells #[.int .u64 t475, .int .u64 t476, .int .u64 t477, .int .i64 t478, .int .i64 t479, .bool t480] 24 (0, 0)) (by (with_reducible repeat (first | refine blk_drewN ?_ _ | refine blk_drew ?_ | refine blk_alloc ?_ _)); exact BK481.out) hb); have n2_ := Aside0.mk (blk_below (g := gb488) (o := .cells #[.int .u64 t482, .int .u64 t483, .int .u64 t484, .int .i64 t485, .int .i64 t486, .bool t487] 24 (0, 0)) (by (with_reducible repeat (first | refine blk_drewN ?_ _ | refine blk_drew ?_ | refine blk_alloc ?_ _)); exact BK488.out) hb); have n3_ := Aside0.mk (blk_below (g := gb495) (o := .cells #[.int .u64 t489, .int .u64 t490, .int .u64 t491, .int .i64 t492, .int .i64 t493, .bool t494] 24 (0, 0)) (by (with_reducible repeat (first | refine blk_drewN ?_ _ | refine blk_drew ?_ | refine blk_alloc ?_ _)); exact BK495.out) hb); have n4_ := Aside0.mk (below_step (by repeat (first | (with_reducible first | exact HB.out | apply below_alloc | apply pw_below_drewN | apply below_drew1 | refine below_set ?_ GE472.out | refine below_set ?_ GE481.out | refine below_set ?_ GE488.out | refine below_set ?_ GE495.out) | exact HB.out)) hb); have n5_ := Aside0.mk (hbox); have n6_ := Aside0.mk ((by rw [hg]; exact (below_size (by repeat (first | (with_reducible first | exact HB.out | apply below_alloc | apply pw_below_drewN | apply below_drew1 | refine below_set ?_ GE472.out | refine below_set ?_ GE481.out | refine below_set ?_ GE488.out | refine below_set ?_ GE495.out) | exact HB.out))) : w.heap.size ≤ gb520)); have n7_ := n6_; have n8_ := Aside0.mk ((by rw [hg]; exact Nat.ne_of_lt (blk_lt (g := gb472) (o := .cells #[.int .u64 a0_0, .int .u64 a0_1, .int .u64 a0_2, .int .i64 a0_3, .int .i64 a0_4, .bool a0_5] 24 (0, 0)) (by (with_reducible repeat (first | refine blk_drewN ?_ _ | refine blk_drew ?_ | refine blk_alloc ?_ _)); exact BK472.out)) : gb472 ≠ gb520)); have n9_ := Aside0.mk n8_.out.symm; have n10_ := Aside0.mk ((by rw [hg]; exact Nat.ne_of_lt (blk_lt (g := gb481) (o := .cells #[.int .u64 t475, .int .u64 t476, .int .u64 t477, .int .i64 t478, .int .i64 t479, .bool t480] 24 (0, 0)) (by (with_reducible repeat (first | refine blk_drewN ?_ _ | refine blk_drew ?_ | refine blk_alloc ?_ _)); exact BK481.out)) : gb481 ≠ gb520)); have n11_ := Aside0.mk n10_.out.symm; have n12_ := Aside0.mk ((by rw [hg]; exact Nat.ne_of_lt (blk_lt (g := gb488) (o := .cells #[.int .u64 t482, .int .u64 t483, .int .u64 t484, .int .i64 t485, .int .i64 t486, .bool t487] 24 (0, 0)) (by (with_reducible repeat (first | refine blk_drewN ?_ _ | refine blk_drew ?_ | refine blk_alloc ?_ _)); exact BK488.out)) : gb488 ≠ gb520)); have n13_ := Aside0.mk n12_.out.symm; have n14_ := Aside0.mk ((by rw [hg]; exact Nat.ne_of_lt (blk_lt (g := gb495) (o := .cells #[.int .u64 t489, .int .u64 t490, .int .u64 t491, .int .i64 t492, .int .i64 t493, .bool t494] 24 (0, 0)) (by (with_reducible repeat (first | refine blk_drewN ?_ _ | refine blk_drew ?_ | refine blk_alloc ?_ _)); exact BK495.out)) : gb495 ≠ gb520)); have n15_ := Aside0.mk n14_.out.symm; clear BK472; clear BK481; clear BK488; clear BK495; clear HB; have BK472 := n0_; have BK481 := n1_; have BK488 := n2_; have BK495 := n3_; have HB := n4_; have BK520 := n5_; have GW520 := n6_; have GE520 := n7_; have NB472_520 := n8_; have NB520_472 := n9_; have NB481_520 := n10_; have NB520_481 := n11_; have NB488_520 := n12_; have NB520_488 := n13_; have NB495_520 := n14_; have NB520_495 := n15_; clear n0_ n1_ n2_ n3_ n4_ n5_ n6_ n7_ n8_ n9_ n10_ n11_ n12_ n13_ n14_ n15_; clear hb hbox hg; have hnb66 := NB520_472.out; have hnc66 := NB472_520.out; have hnb67 := NB520_481.out; have hnc67 := NB481_520.out; have hnb68 := NB520_488.out; have hnc68 := NB488_520.out; have hnb69 := NB520_495.out; have hnc69 := NB495_520.out; obtain ⟨hcz70_0, hcz70_1, hcz70_2, hcz70_3, hcz70_4, hcz70_5, hfz70_0, hfz70_1, hfz70_2, hfz70_3, hfz70_4, hfz70_5⟩ := cells6 BK520.out) | ((with_reducible refine gate_store (t := 24) (p := 12) rfl ?_); refine store_event (t := 24) (p := 12) (v := ?vo_w71) (w1 := ((((((w65.setCell ⟨gb520, 0, none⟩ (.int .u64 t514)).setCell ⟨gb520, 1, none⟩ (.int .u64 t515)).setCell ⟨gb520, 2, none⟩ (.int .u64 t516)).setCell ⟨gb520, 3, none⟩ (.int .i64 t517)).setCell ⟨gb520, 4, none⟩ (.int .i64 t518)).setCell ⟨gb520, 5, none⟩ (.bool t519))) ?hg ?ho ?hn ?hr ?_; (case ho => rfl); (case hg => rfl); (case hn => rfl); (case hr => first | (go_simp; done) | (go_simp; rfl)); intro w71 hw; have n0_ : Aside0 (w71.heap[gb472]? = some (.cells #[.int .u64 a0_0, .int .u64 a0_1, .int .u64 a0_2, .int .i64 a0_3, .int .i64 a0_4, .bool a0_5] 24 (0, 0))) := ⟨(by rw [hw]; exact (by (with_reducible repeat (first | refine blk_drewN ?_ _ | refine blk_drew ?_ | refine blk_alloc ?_ _)); refine blk_far ?_ NB472_520.out _; (with_reducible repeat (first | refine blk_drewN ?_ _ | refine blk_drew ?_ | refine blk_alloc ?_ _)); refine blk_far ?_ NB472_520.out _; (with_reducible repeat (first | refine blk_drewN ?_ _ | refine blk_drew ?_ | refine blk_alloc ?_ _)); refine blk_far ?_ NB472_520.out _; (with_reducible repeat (first | refine blk_drewN ?_ _ | refine blk_drew ?_ | refine blk_alloc ?_ _)); refine blk_far ?_ NB472_520.out _; (with_reducible repeat (first | refine blk_drewN ?_ _ | refine blk_drew ?_ | refine blk_alloc ?_ _)); refine blk_far ?_ NB472_520.out _; (with_reducible repeat (first | refine blk_drewN ?_ _ | refine blk_drew ?_ | refine blk_alloc ?_ _)); refine blk_far ?_ NB472_520.out _; (with_reducible repeat (first | refine blk_drewN ?_ _ | refine blk_drew ?_ | refine blk_alloc ?_ _)); exact BK472.out))⟩; have n1_ : Aside0 (w71.heap[gb481]? = some (.cells #[.int .u64 t475, .int .u64 t476, .int .u64 t477, .int .i64 t478, .int .i64 t479, .bool t480] 24 (0, 0))) := ⟨(by rw [hw]; exact (by (with_reducible repeat (first | refine blk_drewN ?_ _ | refine blk_drew ?_ | refine blk_alloc ?_ _)); refine blk_far ?_ NB481_520.out _; (with_reducible repeat (first | refine blk_drewN ?_ _ | refine blk_drew ?_ | refine blk_alloc ?_ _)); refine blk_far ?_ NB481_520.out _; (with_reducible repeat (first | refine blk_drewN ?_ _ | refine blk_drew ?_ | refine blk_alloc ?_ _)); refine blk_far ?_ NB481_520.out _; (with_reducible repeat (first | refine blk_drewN ?_ _ | refine blk_drew ?_ | refine blk_alloc ?_ _)); refine blk_far ?_ NB481_520.out _; (with_reducible repeat (first | refine blk_drewN ?_ _ | refine blk_drew ?_ | refine blk_alloc ?_ _)); refine blk_far ?_ NB481_520.out _; (with_reducible repeat (first | refine blk_drewN ?_ _ | refine blk_drew ?_ | refine blk_alloc ?_ _)); refine blk_far ?_ NB481_520.out _; (with_reducible repeat (first | refine blk_drewN ?_ _ | refine blk_drew ?_ | refine blk_alloc ?_ _)); exact BK481.out))⟩; have n2_ : Aside0 (w71.heap[gb488]? = some (.cells #[.int .u64 t482, .int .u64 t483, .int .u64 t484, .int .i64 t485, .int .i64 t486, .bool t487] 24 (0, 0))) := ⟨(by rw [hw]; exact (by (with_reducible repeat (first | refine blk_drewN ?_ _ | refine blk_drew ?_ | refine blk_alloc ?_ _)); refine blk_far ?_ NB488_520.out _; (with_reducible repeat (first | refine blk_drewN ?_ _ | refine blk_drew ?_ | refine blk_alloc ?_ _)); refine blk_far ?_ NB488_520.out _; (with_reducible repeat (first | refine blk_drewN ?_ _ | refine blk_drew ?_ | refine blk_alloc ?_ _)); refine blk_far ?_ NB488_520.out _; (with_reducible repeat (first | refine blk_drewN ?_ _ | refine blk_drew ?_ | refine blk_alloc ?_ _)); refine blk_far ?_ NB488_520.out _; (with_reducible repeat (first | refine blk_drewN ?_ _ | refine blk_drew ?_ | refine blk_alloc ?_ _)); refine blk_far ?_ NB488_520.out _; (with_reducible repeat (first | refine blk_drewN ?_ _ | refine blk_drew ?_ | refine blk_alloc ?_ _)); refine blk_far ?_ NB488_520.out _; (with_reducible repeat (first | refine blk_drewN ?_ _ | refine blk_drew ?_ | refine blk_alloc ?_ _)); exact BK488.out))⟩; have n3_ : Aside0 (w71.heap[gb495]? = some (.cells #[.int .u64 t489, .int .u64 t490, .int .u64 t491, .int .i64 t492, .int .i64 t493, .bool t494] 24 (0, 0))) := ⟨(by rw [hw]; exact (by (with_reducible repeat (first | refine blk_drewN ?_ _ | refine blk_drew ?_ | refine blk_alloc ?_ _)); refine blk_far ?_ NB495_520.out _; (with_reducible repeat (first | refine blk_drewN ?_ _ | refine blk_drew ?_ | refine blk_alloc ?_ _)); refine blk_far ?_ NB495_520.out _; (with_reducible repeat (first | refine blk_drewN ?_ _ | refine blk_drew ?_ | refine blk_alloc ?_ _)); refine blk_far ?_ NB495_520.out _; (with_reducible repeat (first | refine blk_drewN ?_ _ | refine blk_drew ?_ | refine blk_alloc ?_ _)); refine blk_far ?_ NB495_520.out _; (with_reducible repeat (first | refine blk_drewN ?_ _ | refine blk_drew ?_ | refine blk_alloc ?_ _)); refine blk_far ?_ NB495_520.out _; (with_reducible repeat (first | refine blk_drewN ?_ _ | refine blk_drew ?_ | refine blk_alloc ?_ _)); refine blk_far ?_ NB495_520.out _; (with_reducible repeat (first | refine blk_drewN ?_ _ | refine blk_drew ?_ | refine blk_alloc ?_ _)); exact BK495.out))⟩; have n4_ : Aside0 (w71.heap[gb520]? = some (.cells #[.int .u64 t514, .int .u64 t515, .int .u64 t516, .int .i64 t517, .int .i64 t518, .bool t519] 24 (0, 0))) := ⟨(by rw [hw]; exact (by (with_reducible repeat (first | refine blk_drewN ?_ _ | refine blk_drew ?_ | refine blk_alloc ?_ _)); refine blk_put (cs := #[.int .u64 t514, .int .u64 t515, .int .u64 t516, .int .i64 t517, .int .i64 t518, .bool false]) ?_ 5 _ rfl; (with_reducible repeat (first | refine blk_drewN ?_ _ | refine blk_drew ?_ | refine blk_alloc ?_ _)); refine blk_put (cs := #[.int .u64 t514, .int .u64 t515, .int .u64 t516, .int .i64 t517, .int .i64 0, .bool false]) ?_ 4 _ rfl; (with_reducible repeat (first | refine blk_drewN ?_ _ | refine blk_drew ?_ | refine blk_alloc ?_ _)); refine blk_put (cs := #[.int .u64 t514, .int .u64 t515, .int .u64 t516, .int .i64 0, .int .i64 0, .bool false]) ?_ 3 _ rfl; (with_reducible repeat (first | refine blk_drewN ?_ _ | refine blk_drew ?_ | refine blk_alloc ?_ _)); refine blk_put (cs := #[.int .u64 t514, .int .u64 t515, .int .u64 0, .int .i64 0, .int .i64 0, .bool false]) ?_ 2 _ rfl; (with_reducible repeat (first | refine blk_drewN ?_ _ | refine blk_drew ?_ | refine blk_alloc ?_ _)); refine blk_put (cs := #[.int .u64 t514, .int .u64 0, .int .u64 0, .int .i64 0, .int .i64 0, .bool false]) ?_ 1 _ rfl; (with_reducible repeat (first | refine blk_drewN ?_ _ | refine blk_drew ?_ | refine blk_alloc ?_ _)); refine blk_put (cs := #[.int .u64 0, .int .u64 0, .int .u64 0, .int .i64 0, .int .i64 0, .bool false]) ?_ 0 _ rfl; (with_reducible repeat (first | refine blk_drewN ?_ _ | refine blk_drew ?_ | refine blk_alloc ?_ _)); exact BK520.out))⟩; have n5_ : Aside0 (Below w.heap.size w w71) := ⟨(by rw [hw]; exact (by repeat (first | (with_reducible first | exact HB.out | apply below_alloc | apply pw_below_drewN | apply below_drew1 | refine below_set ?_ GE472.out | refine below_set ?_ GE481.out | refine below_set ?_ GE488.out | refine below_set ?_ GE495.out | refine below_set ?_ GE520.out) | exact HB.out)))⟩; clear hw; clear BK472; clear BK481; clear BK488; clear BK495; clear BK520; clear HB; have BK472 := n0_; have BK481 := n1_; have BK488 := n2_; have BK495 := n3_; have BK520 := n4_; have HB := n5_; clear n0_ n1_ n2_ n3_ n4_ n5_; obtain ⟨hcz72_0, hcz72_1, hcz72_2, hcz72_3, hcz72_4, hcz72_5, hfz72_0, hfz72_1, hfz72_2, hfz72_3, hfz72_4, hfz72_5⟩ := cells6 BK472.out) | ((with_reducible refine gate_dst (N := 47) rfl ?_); (with_reducible refine gate_callee (f := 19) rfl ?_); refine goesL_ (some 47) rfl rfl Tryd.func19 (by kernel_rfl) rfl #[.agg #[.int .u64 a0_0, .int .u64 a0_1, .int .u64 a0_2, .int .i64 a0_3, .int .i64 a0_4, .bool a0_5], .int .u64 a1] rfl (by (try simp only [List.map_toArray, List.map_cons, List.map_nil]); first | done | rfl | (simp only [List.length_drop, List.length_take]; rfl)) ?_; (with_reducible refine (cap_Bound.calls a0_0 a0_1 a0_2 a0_3 a0_4 a0_5 a1 t521 t522 t523 t524 t525 t526 _ A49.out).mono ?_); rintro e w73 ⟨rfl, hb⟩; refine ⟨_, rfl, ?_⟩; have n0_ := Aside0.mk (blk_below (g := gb472) (o := .cells #[.int .u64 a0_0, .int .u64 a0_1, .int .u64 a0_2, .int .i64 a0_3, .int .i64 a0_4, .bool a0_5] 24 (0, 0)) (by (with_reducible repeat (first | refine blk_drewN ?_ _ | refine blk_drew ?_ | refine blk_alloc ?_ _)); exact BK472.out) hb); have n1_ := Aside0.mk (blk_below (g := gb481) (o := .cells #[.int .u64 t475, .int .u64 t476, .int .u64 t477, .int .i64 t478, .int .i64 t479, .bool t480] 24 (0, 0)) (by (with_reducible repeat (first | refine blk_drewN ?_ _ | refine blk_drew ?_ | refine blk_alloc ?_ _)); exact BK481.out) hb); have n2_ := Aside0.mk (blk_below (g := gb488) (o := .cells #[.int .u64 t482, .int .u64 t483, .int .u64 t484, .int .i64 t485, .int .i64 t486, .bool t487] 24 (0, 0)) (by (with_reducible repeat (first | refine blk_drewN ?_ _ | refine blk_drew ?_ | refine blk_alloc ?_ _)); exact BK488.out) hb); have n3_ := Aside0.mk (blk_below (g := gb495) (o := .cells #[.int .u64 t489, .int .u64 t490, .int .u64 t491, .int .i64 t492, .int .i64 t493, .bool t494] 24 (0, 0)) (by (with_reducible repeat (first | refine blk_drewN ?_ _ | refine blk_drew ?_ | refine blk_alloc ?_ _)); exact BK495.out) hb); have n4_ := Aside0.mk (blk_below (g := gb520) (o := .cells #[.int .u64 t514, .int .u64 t515, .int .u64 t516, .int .i64 t517, .int .i64 t518, .bool t519] 24 (0, 0)) (by (with_reducible repeat (first | refine blk_drewN ?_ _ | refine blk_drew ?_ | refine blk_alloc ?_ _)); exact BK520.out) hb); have n5_ := Aside0.mk (below_step (by repeat (first | (with_reducible first | exact HB.out | apply below_alloc | apply pw_below_drewN | apply below_drew1 | refine below_set ?_ GE472.out | refine below_set ?_ GE481.out | refine below_set ?_ GE488.out | refine below_set ?_ GE495.out | refine below_set ?_ GE520.out) | exact HB.out)) hb); clear BK472; clear BK481; clear BK488; clear BK495; clear BK520; clear HB; have BK472 := n0_; have BK481 := n1_; have BK488 := n2_; have BK495 := n3_; have BK520 := n4_; have HB := n5_; clear n0_ n1_ n2_ n3_ n4_ n5_; (try clear hb); (try clear hb2); (try clear hk); (try clear hi)) | ((with_reducible refine gate_dst (N := 13) rfl ?_); refine box_event ?hg (N := 13) ?hd (cs := #[.int .u64 0, .int .u64 0, .int .u64 0, .int .i64 0, .int .i64 0, .bool false]) (t := 24) ?hr ?_; (case hd => rfl); (case hg => rfl); (case hr => first | (go_simp; done) | (go_simp; rfl)); intro gb527 hg w74 hbox hb; have n0_ := Aside0.mk (blk_below (g := gb472) (o := .cells #[.int .u64 a0_0, .int .u64 a0_1, .int .u64 a0_2, .int .i64 a0_3, .int .i64 a0_4, .bool a0_5] 24 (0, 0)) (by (with_reducible repeat (first | refine blk_drewN ?_ _ | refine blk_drew ?_ | refine blk_alloc ?_ _)); exact BK472.out) hb); have n1_ := Aside0.mk (blk_below (g := gb481) (o := .cells #[.int .u64 t475, .int .u64 t476, .int .u64 t477, .int .i64 t478, .int .i64 t479, .bool t480] 24 (0, 0)) (by (with_reducible repeat (first | refine blk_drewN ?_ _ | refine blk_drew ?_ | refine blk_alloc ?_ _)); exact BK481.out) hb); have n2_ := Aside0.mk (blk_below (g := gb488) (o := .cells #[.int .u64 t482, .int .u64 t483, .int .u64 t484, .int .i64 t485, .int .i64 t486, .bool t487] 24 (0, 0)) (by (with_reducible repeat (first | refine blk_drewN ?_ _ | refine blk_drew ?_ | refine blk_alloc ?_ _)); exact BK488.out) hb); have n3_ := Aside0.mk (blk_below (g := gb495) (o := .cells #[.int .u64 t489, .int .u64 t490, .int .u64 t491, .int .i64 t492, .int .i64 t493, .bool t494] 24 (0, 0)) (by (with_reducible repeat (first | refine blk_drewN ?_ _ | refine blk_drew ?_ | refine blk_alloc ?_ _)); exact BK495.out) hb); have n4_ := Aside0.mk (blk_below (g := gb520) (o := .cells #[.int .u64 t514, .int .u64 t515, .int .u64 t516, .int .i64 t517, .int .i64 t518, .bool t519] 24 (0, 0)) (by (with_reducible repeat (first | refine blk_drewN ?_ _ | refine blk_drew ?_ | refine blk_alloc ?_ _)); exact BK520.out) hb); have n5_ := Aside0.mk (below_step (by repeat (first | (with_reducible first | exact HB.out | apply below_alloc | apply pw_below_drewN | apply below_drew1 | refine below_set ?_ GE472.out | refine below_set ?_ GE481.out | refine below_set ?_ GE488.out | refine below_set ?_ GE495.out | refine below_set ?_ GE520.out) | exact HB.out)) hb); have n6_ := Aside0.mk (hbox); have n7_ := Aside0.mk ((by rw [hg]; exact (below_size (by repeat (first | (with_reducible first | exact HB.out | apply below_alloc | apply pw_below_drewN | apply below_drew1 | refine below_set ?_ GE472.out | refine below_set ?_ GE481.out | refine below_set ?_ GE488.out | refine below_set ?_ GE495.out | refine below_set ?_ GE520.out) | exact HB.out))) : w.heap.size ≤ gb527)); have n8_ := n7_; have n9_ := Aside0.mk ((by rw [hg]; exact Nat.ne_of_lt (blk_lt (g := gb472) (o := .cells #[.int .u64 a0_0, .int .u64 a0_1, .int .u64 a0_2, .int .i64 a0_3, .int .i64 a0_4, .bool a0_5] 24 (0, 0)) (by (with_reducible repeat (first | refine blk_drewN ?_ _ | refine blk_drew ?_ | refine blk_alloc ?_ _)); exact BK472.out)) : gb472 ≠ gb527)); have n10_ := Aside0.mk n9_.out.symm; have n11_ := Aside0.mk ((by rw [hg]; exact Nat.ne_of_lt (blk_lt (g := gb481) (o := .cells #[.int .u64 t475, .int .u64 t476, .int .u64 t477, .int .i64 t478, .int .i64 t479, .bool t480] 24 (0, 0)) (by (with_reducible repeat (first | refine blk_drewN ?_ _ | refine blk_drew ?_ | refine blk_alloc ?_ _)); exact BK481.out)) : gb481 ≠ gb527)); have n12_ := Aside0.mk n11_.out.symm; have n13_ := Aside0.mk ((by rw [hg]; exact Nat.ne_of_lt (blk_lt (g := gb488) (o := .cells #[.int .u64 t482, .int .u64 t483, .int .u64 t484, .int .i64 t485, .int .i64 t486, .bool t487] 24 (0, 0)) (by (with_reducible repeat (first | refine blk_drewN ?_ _ | refine blk_drew ?_ | refine blk_alloc ?_ _)); exact BK488.out)) : gb488 ≠ gb527)); have n14_ := Aside0.mk n13_.out.symm; have n15_ := Aside0.mk ((by rw [hg]; exact Nat.ne_of_lt (blk_lt (g := gb495) (o := .cells #[.int .u64 t489, .int .u64 t490, .int .u64 t491, .int .i64 t492, .int .i64 t493, .bool t494] 24 (0, 0)) (by (with_reducible repeat (first | refine blk_drewN ?_ _ | refine blk_drew ?_ | refine blk_alloc ?_ _)); exact BK495.out)) : gb495 ≠ gb527)); have n16_ := Aside0.mk n15_.out.symm; have n17_ := Aside0.mk ((by rw [hg]; exact Nat.ne_of_lt (blk_lt (g := gb520) (o := .cells #[.int .u64 t514, .int .u64 t515, .int .u64 t516, .int .i64 t517, .int .i64 t518, .bool t519] 24 (0, 0)) (by (with_reducible repeat (first | refine blk_drewN ?_ _ | refine blk_drew ?_ | refine blk_alloc ?_ _)); exact BK520.out)) : gb520 ≠ gb527)); have n18_ := Aside0.mk n17_.out.symm; clear BK472; clear BK481; clear BK488; clear BK495; clear BK520; clear HB; have BK472 := n0_; have BK481 := n1_; have BK488 := n2_; have BK495 := n3_; have BK520 := n4_; have HB := n5_; have BK527 := n6_; have GW527 := n7_; have GE527 := n8_; have NB472_527 := n9_; have NB527_472 := n10_; have NB481_527 := n11_; have NB527_481 := n12_; have NB488_527 := n13_; have NB527_488 := n14_; have NB495_527 := n15_; have NB527_495 := n16_; have NB520_527 := n17_; have NB527_520 := n18_; clear n0_ n1_ n2_ n3_ n4_ n5_ n6_ n7_ n8_ n9_ n10_ n11_ n12_ n13_ n14_ n15_ n16_ n17_ n18_; clear hb hbox hg; have hnb75 := NB527_472.out; have hnc75 := NB472_527.out; have hnb76 := NB527_481.out; have hnc76 := NB481_527.out; have hnb77 := NB527_488.out; have hnc77 := NB488_527.out; have hnb78 := NB527_495.out; have hnc78 := NB495_527.out; have hnb79 := NB527_520.out; have hnc79 := NB520_527.out; obtain ⟨hcz80_0, hcz80_1, hcz80_2, hcz80_3, hcz80_4, hcz80_5, hfz80_0, hfz80_1, hfz80_2, hfz80_3, hfz80_4, hfz80_5⟩ := cells6 BK527.out) | ((with_reducible refine gate_store (t := 24) (p := 13) rfl ?_); refine store_event (t := 24) (p := 13) (v := ?vo_w81) (w1 := ((((((w74.setCell ⟨gb527, 0, none⟩ (.int .u64 t521)).setCell ⟨gb527, 1, none⟩ (.int .u64 t522)).setCell ⟨gb527, 2, none⟩ (.int .u64 t523)).setCell ⟨gb527, 3, none⟩ (.int .i64 t524)).setCell ⟨gb527, 4, none⟩ (.int .i64 t525)).setCell ⟨gb527, 5, none⟩ (.bool t526))) ?hg ?ho ?hn ?hr ?_; (case ho => rfl); (case hg => rfl); (case hn => rfl); (case hr => first | (go_simp; done) | (go_simp; rfl)); intro w81 hw; have n0_ : Aside0 (w81.heap[gb472]? = some (.cells #[.int .u64 a0_0, .int .u64 a0_1, .int .u64 a0_2, .int .i64 a0_3, .int .i64 a0_4, .bool a0_5] 24 (0, 0))) := ⟨(by rw [hw]; exact (by (with_reducible repeat (first | refine blk_drewN ?_ _ | refine blk_drew ?_ | refine blk_alloc ?_ _)); refine blk_far ?_ NB472_527.out _; (with_reducible repeat (first | refine blk_drewN ?_ _ | refine blk_drew ?_ | refine blk_alloc ?_ _)); refine blk_far ?_ NB472_527.out _; (with_reducible repeat (first | refine blk_drewN ?_ _ | refine blk_drew ?_ | refine blk_alloc ?_ _)); refine blk_far ?_ NB472_527.out _; (with_reducible repeat (first | refine blk_drewN ?_ _ | refine blk_drew ?_ | refine blk_alloc ?_ _)); refine blk_far ?_ NB472_527.out _; (with_reducible repeat (first | refine blk_drewN ?_ _ | refine blk_drew ?_ | refine blk_alloc ?_ _)); refine blk_far ?_ NB472_527.out _; (with_reducible repeat (first | refine blk_drewN ?_ _ | refine blk_drew ?_ | refine blk_alloc ?_ _)); refine blk_far ?_ NB472_527.out _; (with_reducible repeat (first | refine blk_drewN ?_ _ | refine blk_drew ?_ | refine blk_alloc ?_ _)); exact BK472.out))⟩; have n1_ : Aside0 (w81.heap[gb481]? = some (.cells #[.int .u64 t475, .int .u64 t476, .int .u64 t477, .int .i64 t478, .int .i64 t479, .bool t480] 24 (0, 0))) := ⟨(by rw [hw]; exact (by (with_reducible repeat (first | refine blk_drewN ?_ _ | refine blk_drew ?_ | refine blk_alloc ?_ _)); refine blk_far ?_ NB481_527.out _; (with_reducible repeat (first | refine blk_drewN ?_ _ | refine blk_drew ?_ | refine blk_alloc ?_ _)); refine blk_far ?_ NB481_527.out _; (with_reducible repeat (first | refine blk_drewN ?_ _ | refine blk_drew ?_ | refine blk_alloc ?_ _)); refine blk_far ?_ NB481_527.out _; (with_reducible repeat (first | refine blk_drewN ?_ _ | refine blk_drew ?_ | refine blk_alloc ?_ _)); refine blk_far ?_ NB481_527.out _; (with_reducible repeat (first | refine blk_drewN ?_ _ | refine blk_drew ?_ | refine blk_alloc ?_ _)); refine blk_far ?_ NB481_527.out _; (with_reducible repeat (first | refine blk_drewN ?_ _ | refine blk_drew ?_ | refine blk_alloc ?_ _)); refine blk_far ?_ NB481_527.out _; (with_reducible repeat (first | refine blk_drewN ?_ _ | refine blk_drew ?_ | refine blk_alloc ?_ _)); exact BK481.out))⟩; have n2_ : Aside0 (w81.heap[gb488]? = some (.cells #[.int .u64 t482, .int .u64 t483, .int .u64 t484, .int .i64 t485, .int .i64 t486, .bool t487] 24 (0, 0))) := ⟨(by rw [hw]; exact (by (with_reducible repeat (first | refine blk_drewN ?_ _ | refine blk_drew ?_ | refine blk_alloc ?_ _)); refine blk_far ?_ NB488_527.out _; (with_reducible repeat (first | refine blk_drewN ?_ _ | refine blk_drew ?_ | refine blk_alloc ?_ _)); refine blk_far ?_ NB488_527.out _; (with_reducible repeat (first | refine blk_drewN ?_ _ | refine blk_drew ?_ | refine blk_alloc ?_ _)); refine blk_far ?_ NB488_527.out _; (with_reducible repeat (first | refine blk_drewN ?_ _ | refine blk_drew ?_ | refine blk_alloc ?_ _)); refine blk_far ?_ NB488_527.out _; (with_reducible repeat (first | refine blk_drewN ?_ _ | refine blk_drew ?_ | refine blk_alloc ?_ _)); refine blk_far ?_ NB488_527.out _; (with_reducible repeat (first | refine blk_drewN ?_ _ | refine blk_drew ?_ | refine blk_alloc ?_ _)); refine blk_far ?_ NB488_527.out _; (with_reducible repeat (first | refine blk_drewN ?_ _ | refine blk_drew ?_ | refine blk_alloc ?_ _)); exact BK488.out))⟩; have n3_ : Aside0 (w81.heap[gb495]? = some (.cells #[.int .u64 t489, .int .u64 t490, .int .u64 t491, .int .i64 t492, .int .i64 t493, .bool t494] 24 (0, 0))) := ⟨(by rw [hw]; exact (by (with_reducible repeat (first | refine blk_drewN ?_ _ | refine blk_drew ?_ | refine blk_alloc ?_ _)); refine blk_far ?_ NB495_527.out _; (with_reducible repeat (first | refine blk_drewN ?_ _ | refine blk_drew ?_ | refine blk_alloc ?_ _)); refine blk_far ?_ NB495_527.out _; (with_reducible repeat (first | refine blk_drewN ?_ _ | refine blk_drew ?_ | refine blk_alloc ?_ _)); refine blk_far ?_ NB495_527.out _; (with_reducible repeat (first | refine blk_drewN ?_ _ | refine blk_drew ?_ | refine blk_alloc ?_ _)); refine blk_far ?_ NB495_527.out _; (with_reducible repeat (first | refine blk_drewN ?_ _ | refine blk_drew ?_ | refine blk_alloc ?_ _)); refine blk_far ?_ NB495_527.out _; (with_reducible repeat (first | refine blk_drewN ?_ _ | refine blk_drew ?_ | refine blk_alloc ?_ _)); refine blk_far ?_ NB495_527.out _; (with_reducible repeat (first | refine blk_drewN ?_ _ | refine blk_drew ?_ | refine blk_alloc ?_ _)); exact BK495.out))⟩; have n4_ : Aside0 (w81.heap[gb520]? = some (.cells #[.int .u64 t514, .int .u64 t515, .int .u64 t516, .int .i64 t517, .int .i64 t518, .bool t519] 24 (0, 0))) := ⟨(by rw [hw]; exact (by (with_reducible repeat (first | refine blk_drewN ?_ _ | refine blk_drew ?_ | refine blk_alloc ?_ _)); refine blk_far ?_ NB520_527.out _; (with_reducible repeat (first | refine blk_drewN ?_ _ | refine blk_drew ?_ | refine blk_alloc ?_ _)); refine blk_far ?_ NB520_527.out _; (with_reducible repeat (first | refine blk_drewN ?_ _ | refine blk_drew ?_ | refine blk_alloc ?_ _)); refine blk_far ?_ NB520_527.out _; (with_reducible repeat (first | refine blk_drewN ?_ _ | refine blk_drew ?_ | refine blk_alloc ?_ _)); refine blk_far ?_ NB520_527.out _; (with_reducible repeat (first | refine blk_drewN ?_ _ | refine blk_drew ?_ | refine blk_alloc ?_ _)); refine blk_far ?_ NB520_527.out _; (with_reducible repeat (first | refine blk_drewN ?_ _ | refine blk_drew ?_ | refine blk_alloc ?_ _)); refine blk_far ?_ NB520_527.out _; (with_reducible repeat (first | refine blk_drewN ?_ _ | refine blk_drew ?_ | refine blk_alloc ?_ _)); exact BK520.out))⟩; have n5_ : Aside0 (w81.heap[gb527]? = some (.cells #[.int .u64 t521, .int .u64 t522, .int .u64 t523, .int .i64 t524, .int .i64 t525, .bool t526] 24 (0, 0))) := ⟨(by rw [hw]; exact (by (with_reducible repeat (first | refine blk_drewN ?_ _ | refine blk_drew ?_ | refine blk_alloc ?_ _)); refine blk_put (cs := #[.int .u64 t521, .int .u64 t522, .int .u64 t523, .int .i64 t524, .int .i64 t525, .bool false]) ?_ 5 _ rfl; (with_reducible repeat (first | refine blk_drewN ?_ _ | refine blk_drew ?_ | refine blk_alloc ?_ _)); refine blk_put (cs := #[.int .u64 t521, .int .u64 t522, .int .u64 t523, .int .i64 t524, .int .i64 0, .bool false]) ?_ 4 _ rfl; (with_reducible repeat (first | refine blk_drewN ?_ _ | refine blk_drew ?_ | refine blk_alloc ?_ _)); refine blk_put (cs := #[.int .u64 t521, .int .u64 t522, .int .u64 t523, .int .i64 0, .int .i64 0, .bool false]) ?_ 3 _ rfl; (with_reducible repeat (first | refine blk_drewN ?_ _ | refine blk_drew ?_ | refine blk_alloc ?_ _)); refine blk_put (cs := #[.int .u64 t521, .int .u64 t522, .int .u64 0, .int .i64 0, .int .i64 0, .bool false]) ?_ 2 _ rfl; (with_reducible repeat (first | refine blk_drewN ?_ _ | refine blk_drew ?_ | refine blk_alloc ?_ _)); refine blk_put (cs := #[.int .u64 t521, .int .u64 0, .int .u64 0, .int .i64 0, .int .i64 0, .bool false]) ?_ 1 _ rfl; (with_reducible repeat (first | refine blk_drewN ?_ _ | refine blk_drew ?_ | refine blk_alloc ?_ _)); refine blk_put (cs := #[.int .u64 0, .int .u64 0, .int .u64 0, .int .i64 0, .int .i64 0, .bool false]) ?_ 0 _ rfl; (with_reducible repeat (first | refine blk_drewN ?_ _ | refine blk_drew ?_ | refine blk_alloc ?_ _)); exact BK527.out))⟩; have n6_ : Aside0 (Below w.heap.size w w81) := ⟨(by rw [hw]; exact (by repeat (first | (with_reducible first | exact HB.out | apply below_alloc | apply pw_below_drewN | apply below_drew1 | refine below_set ?_ GE472.out | refine below_set ?_ GE481.out | refine below_set ?_ GE488.out | refine below_set ?_ GE495.out | refine below_set ?_ GE520.out | refine below_set ?_ GE527.out) | exact HB.out)))⟩; clear hw; clear BK472; clear BK481; clear BK488; clear BK495; clear BK520; clear BK527; clear HB; have BK472 := n0_; have BK481 := n1_; have BK488 := n2_; have BK495 := n3_; have BK520 := n4_; have BK527 := n5_; have HB := n6_; clear n0_ n1_ n2_ n3_ n4_ n5_ n6_; obtain ⟨hcz82_0, hcz82_1, hcz82_2, hcz82_3, hcz82_4, hcz82_5, hfz82_0, hfz82_1, hfz82_2, hfz82_3, hfz82_4, hfz82_5⟩ := cells6 BK472.out) | ((with_reducible refine gate_dst (N := 50) rfl ?_); (with_reducible refine gate_callee (f := 20) rfl ?_); refine goesL_ (some 50) rfl rfl Tryd.func20 (by kernel_rfl) rfl #[.agg #[.int .u64 a0_0, .int .u64 a0_1, .int .u64 a0_2, .int .i64 a0_3, .int .i64 a0_4, .bool a0_5], .int .i64 a2] rfl (by (try simp only [List.map_toArray, List.map_cons, List.map_nil]); first | done | rfl | (simp only [List.length_drop, List.length_take]; rfl)) ?_; (with_reducible refine (cap_And.calls a0_0 a0_1 a0_2 a0_3 a0_4 a0_5 a2 t528 t529 t530 t531 t532 t533 _ A50.out).mono ?_); rintro e w83 ⟨rfl, hb⟩; refine ⟨_, rfl, ?_⟩; have n0_ := Aside0.mk (blk_below (g := gb472) (o := .cells #[.int .u64 a0_0, .int .u64 a0_1, .int .u64 a0_2, .int .i64 a0_3, .int .i64 a0_4, .bool a0_5] 24 (0, 0)) (by (with_reducible repeat (first | refine blk_drewN ?_ _ | refine blk_drew ?_ | refine blk_alloc ?_ _)); exact BK472.out) hb); have n1_ := Aside0.mk (blk_below (g := gb481) (o := .cells #[.int .u64 t475, .int .u64 t476, .int .u64 t477, .int .i64 t478, .int .i64 t479, .bool t480] 24 (0, 0)) (by (with_reducible repeat (first | refine blk_drewN ?_ _ | refine blk_drew ?_ | refine blk_alloc ?_ _)); exact BK481.out) hb); have n2_ := Aside0.mk (blk_below (g := gb488) (o := .cells #[.int .u64 t482, .int .u64 t483, .int .u64 t484, .int .i64 t485, .int .i64 t486, .bool t487] 24 (0, 0)) (by (with_reducible repeat (first | refine blk_drewN ?_ _ | refine blk_drew ?_ | refine blk_alloc ?_ _)); exact BK488.out) hb); have n3_ := Aside0.mk (blk_below (g := gb495) (o := .cells #[.int .u64 t489, .int .u64 t490, .int .u64 t491, .int .i64 t492, .int .i64 t493, .bool t494] 24 (0, 0)) (by (with_reducible repeat (first | refine blk_drewN ?_ _ | refine blk_drew ?_ | refine blk_alloc ?_ _)); exact BK495.out) hb); have n4_ := Aside0.mk (blk_below (g := gb520) (o := .cells #[.int .u64 t514, .int .u64 t515, .int .u64 t516, .int .i64 t517, .int .i64 t518, .bool t519] 24 (0, 0)) (by (with_reducible repeat (first | refine blk_drewN ?_ _ | refine blk_drew ?_ | refine blk_alloc ?_ _)); exact BK520.out) hb); have n5_ := Aside0.mk (blk_below (g := gb527) (o := .cells #[.int .u64 t521, .int .u64 t522, .int .u64 t523, .int .i64 t524, .int .i64 t525, .bool t526] 24 (0, 0)) (by (with_reducible repeat (first | refine blk_drewN ?_ _ | refine blk_drew ?_ | refine blk_alloc ?_ _)); exact BK527.out) hb); have n6_ := Aside0.mk (below_step (by repeat (first | (with_reducible first | exact HB.out | apply below_alloc | apply pw_below_drewN | apply below_drew1 | refine below_set ?_ GE472.out | refine below_set ?_ GE481.out | refine below_set ?_ GE488.out | refine below_set ?_ GE495.out | refine below_set ?_ GE520.out | refine below_set ?_ GE527.out) | exact HB.out)) hb); clear BK472; clear BK481; clear BK488; clear BK495; clear BK520; clear BK527; clear HB; have BK472 := n0_; have BK481 := n1_; have BK488 := n2_; have BK495 := n3_; have BK520 := n4_; have BK527 := n5_; have HB := n6_; clear n0_ n1_ n2_ n3_ n4_ n5_ n6_; (try clear hb); (try clear hb2); (try clear hk); (try clear hi)) | ((with_reducible refine gate_dst (N := 14) rfl ?_); refine box_event ?hg (N := 14) ?hd (cs := #[.int .u64 0, .int .u64 0, .int .u64 0, .int .i64 0, .int .i64 0, .bool false]) (t := 24) ?hr ?_; (case hd => rfl); (case hg => rfl); (case hr => first | (go_simp; done) | (go_simp; rfl)); intro gb534 hg w84 hbox hb; have n0_ := Aside0.mk (blk_below (g := gb472) (o := .cells #[.int .u64 a0_0, .int .u64 a0_1, .int .u64 a0_2, .int .i64 a0_3, .int .i64 a0_4, .bool a0_5] 24 (0, 0)) (by (with_reducible repeat (first | refine blk_drewN ?_ _ | refine blk_drew ?_ | refine blk_alloc ?_ _)); exact BK472.out) hb); have n1_ := Aside0.mk (blk_below (g := gb481) (o := .cells #[.int .u64 t475, .int .u64 t476, .int .u64 t477, .int .i64 t478, .int .i64 t479, .bool t480] 24 (0, 0)) (by (with_reducible repeat (first | refine blk_drewN ?_ _ | refine blk_drew ?_ | refine blk_alloc ?_ _)); exact BK481.out) hb); have n2_ := Aside0.mk (blk_below (g := gb488) (o := .cells #[.int .u64 t482, .int .u64 t483, .int .u64 t484, .int .i64 t485, .int .i64 t486, .bool t487] 24 (0, 0)) (by (with_reducible repeat (first | refine blk_drewN ?_ _ | refine blk_drew ?_ | refine blk_alloc ?_ _)); exact BK488.out) hb); have n3_ := Aside0.mk (blk_below (g := gb495) (o := .cells #[.int .u64 t489, .int .u64 t490, .int .u64 t491, .int .i64 t492, .int .i64 t493, .bool t494] 24 (0, 0)) (by (with_reducible repeat (first | refine blk_drewN ?_ _ | refine blk_drew ?_ | refine blk_alloc ?_ _)); exact BK495.out) hb); have n4_ := Aside0.mk (blk_below (g := gb520) (o := .cells #[.int .u64 t514, .int .u64 t515, .int .u64 t516, .int .i64 t517, .int .i64 t518, .bool t519] 24 (0, 0)) (by (with_reducible repeat (first | refine blk_drewN ?_ _ | refine blk_drew ?_ | refine blk_alloc ?_ _)); exact BK520.out) hb); have n5_ := Aside0.mk (blk_below (g := gb527) (o := .cells #[.int .u64 t521, .int .u64 t522, .int .u64 t523, .int .i64 t524, .int .i64 t525, .bool t526] 24 (0, 0)) (by (with_reducible repeat (first | refine blk_drewN ?_ _ | refine blk_drew ?_ | refine blk_alloc ?_ _)); exact BK527.out) hb); have n6_ := Aside0.mk (below_step (by repeat (first | (with_reducible first | exact HB.out | apply below_alloc | apply pw_below_drewN | apply below_drew1 | refine below_set ?_ GE472.out | refine below_set ?_ GE481.out | refine below_set ?_ GE488.out | refine below_set ?_ GE495.out | refine below_set ?_ GE520.out | refine below_set ?_ GE527.out) | exact HB.out)) hb); have n7_ := Aside0.mk (hbox); have n8_ := Aside0.mk ((by rw [hg]; exact (below_size (by repeat (first | (with_reducible first | exact HB.out | apply below_alloc | apply pw_below_drewN | apply below_drew1 | refine below_set ?_ GE472.out | refine below_set ?_ GE481.out | refine below_set ?_ GE488.out | refine below_set ?_ GE495.out | refine below_set ?_ GE520.out | refine below_set ?_ GE527.out) | exact HB.out))) : w.heap.size ≤ gb534)); have n9_ := n8_; have n10_ := Aside0.mk ((by rw [hg]; exact Nat.ne_of_lt (blk_lt (g := gb472) (o := .cells #[.int .u64 a0_0, .int .u64 a0_1, .int .u64 a0_2, .int .i64 a0_3, .int .i64 a0_4, .bool a0_5] 24 (0, 0)) (by (with_reducible repeat (first | refine blk_drewN ?_ _ | refine blk_drew ?_ | refine blk_alloc ?_ _)); exact BK472.out)) : gb472 ≠ gb534)); have n11_ := Aside0.mk n10_.out.symm; have n12_ := Aside0.mk ((by rw [hg]; exact Nat.ne_of_lt (blk_lt (g := gb481) (o := .cells #[.int .u64 t475, .int .u64 t476, .int .u64 t477, .int .i64 t478, .int .i64 t479, .bool t480] 24 (0, 0)) (by (with_reducible repeat (first | refine blk_drewN ?_ _ | refine blk_drew ?_ | refine blk_alloc ?_ _)); exact BK481.out)) : gb481 ≠ gb534)); have n13_ := Aside0.mk n12_.out.symm; have n14_ := Aside0.mk ((by rw [hg]; exact Nat.ne_of_lt (blk_lt (g := gb488) (o := .cells #[.int .u64 t482, .int .u64 t483, .int .u64 t484, .int .i64 t485, .int .i64 t486, .bool t487] 24 (0, 0)) (by (with_reducible repeat (first | refine blk_drewN ?_ _ | refine blk_drew ?_ | refine blk_alloc ?_ _)); exact BK488.out)) : gb488 ≠ gb534)); have n15_ := Aside0.mk n14_.out.symm; have n16_ := Aside0.mk ((by rw [hg]; exact Nat.ne_of_lt (blk_lt (g := gb495) (o := .cells #[.int .u64 t489, .int .u64 t490, .int .u64 t491, .int .i64 t492, .int .i64 t493, .bool t494] 24 (0, 0)) (by (with_reducible repeat (first | refine blk_drewN ?_ _ | refine blk_drew ?_ | refine blk_alloc ?_ _)); exact BK495.out)) : gb495 ≠ gb534)); have n17_ := Aside0.mk n16_.out.symm; have n18_ := Aside0.mk ((by rw [hg]; exact Nat.ne_of_lt (blk_lt (g := gb520) (o := .cells #[.int .u64 t514, .int .u64 t515, .int .u64 t516, .int .i64 t517, .int .i64 t518, .bool t519] 24 (0, 0)) (by (with_reducible repeat (first | refine blk_drewN ?_ _ | refine blk_drew ?_ | refine blk_alloc ?_ _)); exact BK520.out)) : gb520 ≠ gb534)); have n19_ := Aside0.mk n18_.out.symm; have n20_ := Aside0.mk ((by rw [hg]; exact Nat.ne_of_lt (blk_lt (g := gb527) (o := .cells #[.int .u64 t521, .int .u64 t522, .int .u64 t523, .int .i64 t524, .int .i64 t525, .bool t526] 24 (0, 0)) (by (with_reducible repeat (first | refine blk_drewN ?_ _ | refine blk_drew ?_ | refine blk_alloc ?_ _)); exact BK527.out)) : gb527 ≠ gb534)); have n21_ := Aside0.mk n20_.out.symm; clear BK472; clear BK481; clear BK488; clear BK495; clear BK520; clear BK527; clear HB; have BK472 := n0_; have BK481 := n1_; have BK488 := n2_; have BK495 := n3_; have BK520 := n4_; have BK527 := n5_; have HB := n6_; have BK534 := n7_; have GW534 := n8_; have GE534 := n9_; have NB472_534 := n10_; have NB534_472 := n11_; have NB481_534 := n12_; have NB534_481 := n13_; have NB488_534 := n14_; have NB534_488 := n15_; have NB495_534 := n16_; have NB534_495 := n17_; have NB520_534 := n18_; have NB534_520 := n19_; have NB527_534 := n20_; have NB534_527 := n21_; clear n0_ n1_ n2_ n3_ n4_ n5_ n6_ n7_ n8_ n9_ n10_ n11_ n12_ n13_ n14_ n15_ n16_ n17_ n18_ n19_ n20_ n21_; clear hb hbox hg; have hnb85 := NB534_472.out; have hnc85 := NB472_534.out; have hnb86 := NB534_481.out; have hnc86 := NB481_534.out; have hnb87 := NB534_488.out; have hnc87 := NB488_534.out; have hnb88 := NB534_495.out; have hnc88 := NB495_534.out; have hnb89 := NB534_520.out; have hnc89 := NB520_534.out; have hnb90 := NB534_527.out; have hnc90 := NB527_534.out; obtain ⟨hcz91_0, hcz91_1, hcz91_2, hcz91_3, hcz91_4, hcz91_5, hfz91_0, hfz91_1, hfz91_2, hfz91_3, hfz91_4, hfz91_5⟩ := cells6 BK534.out) | ((with_reducible refine gate_store (t := 24) (p := 14) rfl ?_); refine store_event (t := 24) (p := 14) (v := ?vo_w92) (w1 := ((((((w84.setCell ⟨gb534, 0, none⟩ (.int .u64 t528)).setCell ⟨gb534, 1, none⟩ (.int .u64 t529)).setCell ⟨gb534, 2, none⟩ (.int .u64 t530)).setCell ⟨gb534, 3, none⟩ (.int .i64 t531)).setCell ⟨gb534, 4, none⟩ (.int .i64 t532)).setCell ⟨gb534, 5, none⟩ (.bool t533))) ?hg ?ho ?hn ?hr ?_; (case ho => rfl); (case hg => rfl); (case hn => rfl); (case hr => first | (go_simp; done) | (go_simp; rfl)); intro w92 hw; have n0_ : Aside0 (w92.heap[gb472]? = some (.cells #[.int .u64 a0_0, .int .u64 a0_1, .int .u64 a0_2, .int .i64 a0_3, .int .i64 a0_4, .bool a0_5] 24 (0, 0))) := ⟨(by rw [hw]; exact (by (with_reducible repeat (first | refine blk_drewN ?_ _ | refine blk_drew ?_ | refine blk_alloc ?_ _)); refine blk_far ?_ NB472_534.out _; (with_reducible repeat (first | refine blk_drewN ?_ _ | refine blk_drew ?_ | refine blk_alloc ?_ _)); refine blk_far ?_ NB472_534.out _; (with_reducible repeat (first | refine blk_drewN ?_ _ | refine blk_drew ?_ | refine blk_alloc ?_ _)); refine blk_far ?_ NB472_534.out _; (with_reducible repeat (first | refine blk_drewN ?_ _ | refine blk_drew ?_ | refine blk_alloc ?_ _)); refine blk_far ?_ NB472_534.out _; (with_reducible repeat (first | refine blk_drewN ?_ _ | refine blk_drew ?_ | refine blk_alloc ?_ _)); refine blk_far ?_ NB472_534.out _; (with_reducible repeat (first | refine blk_drewN ?_ _ | refine blk_drew ?_ | refine blk_alloc ?_ _)); refine blk_far ?_ NB472_534.out _; (with_reducible repeat (first | refine blk_drewN ?_ _ | refine blk_drew ?_ | refine blk_alloc ?_ _)); exact BK472.out))⟩; have n1_ : Aside0 (w92.heap[gb481]? = some (.cells #[.int .u64 t475, .int .u64 t476, .int .u64 t477, .int .i64 t478, .int .i64 t479, .bool t480] 24 (0, 0))) := ⟨(by rw [hw]; exact (by (with_reducible repeat (first | refine blk_drewN ?_ _ | refine blk_drew ?_ | refine blk_alloc ?_ _)); refine blk_far ?_ NB481_534.out _; (with_reducible repeat (first | refine blk_drewN ?_ _ | refine blk_drew ?_ | refine blk_alloc ?_ _)); refine blk_far ?_ NB481_534.out _; (with_reducible repeat (first | refine blk_drewN ?_ _ | refine blk_drew ?_ | refine blk_alloc ?_ _)); refine blk_far ?_ NB481_534.out _; (with_reducible repeat (first | refine blk_drewN ?_ _ | refine blk_drew ?_ | refine blk_alloc ?_ _)); refine blk_far ?_ NB481_534.out _; (with_reducible repeat (first | refine blk_drewN ?_ _ | refine blk_drew ?_ | refine blk_alloc ?_ _)); refine blk_far ?_ NB481_534.out _; (with_reducible repeat (first | refine blk_drewN ?_ _ | refine blk_drew ?_ | refine blk_alloc ?_ _)); refine blk_far ?_ NB481_534.out _; (with_reducible repeat (first | refine blk_drewN ?_ _ | refine blk_drew ?_ | refine blk_alloc ?_ _)); exact BK481.out))⟩; have n2_ : Aside0 (w92.heap[gb488]? = some (.cells #[.int .u64 t482, .int .u64 t483, .int .u64 t484, .int .i64 t485, .int .i64 t486, .bool t487] 24 (0, 0))) := ⟨(by rw [hw]; exact (by (with_reducible repeat (first | refine blk_drewN ?_ _ | refine blk_drew ?_ | refine blk_alloc ?_ _)); refine blk_far ?_ NB488_534.out _; (with_reducible repeat (first | refine blk_drewN ?_ _ | refine blk_drew ?_ | refine blk_alloc ?_ _)); refine blk_far ?_ NB488_534.out _; (with_reducible repeat (first | refine blk_drewN ?_ _ | refine blk_drew ?_ | refine blk_alloc ?_ _)); refine blk_far ?_ NB488_534.out _; (with_reducible repeat (first | refine blk_drewN ?_ _ | refine blk_drew ?_ | refine blk_alloc ?_ _)); refine blk_far ?_ NB488_534.out _; (with_reducible repeat (first | refine blk_drewN ?_ _ | refine blk_drew ?_ | refine blk_alloc ?_ _)); refine blk_far ?_ NB488_534.out _; (with_reducible repeat (first | refine blk_drewN ?_ _ | refine blk_drew ?_ | refine blk_alloc ?_ _)); refine blk_far ?_ NB488_534.out _; (with_reducible repeat (first | refine blk_drewN ?_ _ | refine blk_drew ?_ | refine blk_alloc ?_ _)); exact BK488.out))⟩; have n3_ : Aside0 (w92.heap[gb495]? = some (.cells #[.int .u64 t489, .int .u64 t490, .int .u64 t491, .int .i64 t492, .int .i64 t493, .bool t494] 24 (0, 0))) := ⟨(by rw [hw]; exact (by (with_reducible repeat (first | refine blk_drewN ?_ _ | refine blk_drew ?_ | refine blk_alloc ?_ _)); refine blk_far ?_ NB495_534.out _; (with_reducible repeat (first | refine blk_drewN ?_ _ | refine blk_drew ?_ | refine blk_alloc ?_ _)); refine blk_far ?_ NB495_534.out _; (with_reducible repeat (first | refine blk_drewN ?_ _ | refine blk_drew ?_ | refine blk_alloc ?_ _)); refine blk_far ?_ NB495_534.out _; (with_reducible repeat (first | refine blk_drewN ?_ _ | refine blk_drew ?_ | refine blk_alloc ?_ _)); refine blk_far ?_ NB495_534.out _; (with_reducible repeat (first | refine blk_drewN ?_ _ | refine blk_drew ?_ | refine blk_alloc ?_ _)); refine blk_far ?_ NB495_534.out _; (with_reducible repeat (first | refine blk_drewN ?_ _ | refine blk_drew ?_ | refine blk_alloc ?_ _)); refine blk_far ?_ NB495_534.out _; (with_reducible repeat (first | refine blk_drewN ?_ _ | refine blk_drew ?_ | refine blk_alloc ?_ _)); exact BK495.out))⟩; have n4_ : Aside0 (w92.heap[gb520]? = some (.cells #[.int .u64 t514, .int .u64 t515, .int .u64 t516, .int .i64 t517, .int .i64 t518, .bool t519] 24 (0, 0))) := ⟨(by rw [hw]; exact (by (with_reducible repeat (first | refine blk_drewN ?_ _ | refine blk_drew ?_ | refine blk_alloc ?_ _)); refine blk_far ?_ NB520_534.out _; (with_reducible repeat (first | refine blk_drewN ?_ _ | refine blk_drew ?_ | refine blk_alloc ?_ _)); refine blk_far ?_ NB520_534.out _; (with_reducible repeat (first | refine blk_drewN ?_ _ | refine blk_drew ?_ | refine blk_alloc ?_ _)); refine blk_far ?_ NB520_534.out _; (with_reducible repeat (first | refine blk_drewN ?_ _ | refine blk_drew ?_ | refine blk_alloc ?_ _)); refine blk_far ?_ NB520_534.out _; (with_reducible repeat (first | refine blk_drewN ?_ _ | refine blk_drew ?_ | refine blk_alloc ?_ _)); refine blk_far ?_ NB520_534.out _; (with_reducible repeat (first | refine blk_drewN ?_ _ | refine blk_drew ?_ | refine blk_alloc ?_ _)); refine blk_far ?_ NB520_534.out _; (with_reducible repeat (first | refine blk_drewN ?_ _ | refine blk_drew ?_ | refine blk_alloc ?_ _)); exact BK520.out))⟩; have n5_ : Aside0 (w92.heap[gb527]? = some (.cells #[.int .u64 t521, .int .u64 t522, .int .u64 t523, .int .i64 t524, .int .i64 t525, .bool t526] 24 (0, 0))) := ⟨(by rw [hw]; exact (by (with_reducible repeat (first | refine blk_drewN ?_ _ | refine blk_drew ?_ | refine blk_alloc ?_ _)); refine blk_far ?_ NB527_534.out _; (with_reducible repeat (first | refine blk_drewN ?_ _ | refine blk_drew ?_ | refine blk_alloc ?_ _)); refine blk_far ?_ NB527_534.out _; (with_reducible repeat (first | refine blk_drewN ?_ _ | refine blk_drew ?_ | refine blk_alloc ?_ _)); refine blk_far ?_ NB527_534.out _; (with_reducible repeat (first | refine blk_drewN ?_ _ | refine blk_drew ?_ | refine blk_alloc ?_ _)); refine blk_far ?_ NB527_534.out _; (with_reducible repeat (first | refine blk_drewN ?_ _ | refine blk_drew ?_ | refine blk_alloc ?_ _)); refine blk_far ?_ NB527_534.out _; (with_reducible repeat (first | refine blk_drewN ?_ _ | refine blk_drew ?_ | refine blk_alloc ?_ _)); refine blk_far ?_ NB527_534.out _; (with_reducible repeat (first | refine blk_drewN ?_ _ | refine blk_drew ?_ | refine blk_alloc ?_ _)); exact BK527.out))⟩; have n6_ : Aside0 (w92.heap[gb534]? = some (.cells #[.int .u64 t528, .int .u64 t529, .int .u64 t530, .int .i64 t531, .int .i64 t532, .bool t533] 24 (0, 0))) := ⟨(by rw [hw]; exact (by (with_reducible repeat (first | refine blk_drewN ?_ _ | refine blk_drew ?_ | refine blk_alloc ?_ _)); refine blk_put (cs := #[.int .u64 t528, .int .u64 t529, .int .u64 t530, .int .i64 t531, .int .i64 t532, .bool false]) ?_ 5 _ rfl; (with_reducible repeat (first | refine blk_drewN ?_ _ | refine blk_drew ?_ | refine blk_alloc ?_ _)); refine blk_put (cs := #[.int .u64 t528, .int .u64 t529, .int .u64 t530, .int .i64 t531, .int .i64 0, .bool false]) ?_ 4 _ rfl; (with_reducible repeat (first | refine blk_drewN ?_ _ | refine blk_drew ?_ | refine blk_alloc ?_ _)); refine blk_put (cs := #[.int .u64 t528, .int .u64 t529, .int .u64 t530, .int .i64 0, .int .i64 0, .bool false]) ?_ 3 _ rfl; (with_reducible repeat (first | refine blk_drewN ?_ _ | refine blk_drew ?_ | refine blk_alloc ?_ _)); refine blk_put (cs := #[.int .u64 t528, .int .u64 t529, .int .u64 0, .int .i64 0, .int .i64 0, .bool false]) ?_ 2 _ rfl; (with_reducible repeat (first | refine blk_drewN ?_ _ | refine blk_drew ?_ | refine blk_alloc ?_ _)); refine blk_put (cs := #[.int .u64 t528, .int .u64 0, .int .u64 0, .int .i64 0, .int .i64 0, .bool false]) ?_ 1 _ rfl; (with_reducible repeat (first | refine blk_drewN ?_ _ | refine blk_drew ?_ | refine blk_alloc ?_ _)); refine blk_put (cs := #[.int .u64 0, .int .u64 0, .int .u64 0, .int .i64 0, .int .i64 0, .bool false]) ?_ 0 _ rfl; (with_reducible repeat (first | refine blk_drewN ?_ _ | refine blk_drew ?_ | refine blk_alloc ?_ _)); exact BK534.out))⟩; have n7_ : Aside0 (Below w.heap.size w w92) := ⟨(by rw [hw]; exact (by repeat (first | (with_reducible first | exact HB.out | apply below_alloc | apply pw_below_drewN | apply below_drew1 | refine below_set ?_ GE472.out | refine below_set ?_ GE481.out | refine below_set ?_ GE488.out | refine below_set ?_ GE495.out | refine below_set ?_ GE520.out | refine below_set ?_ GE527.out | refine below_set ?_ GE534.out) | exact HB.out)))⟩; clear hw; clear BK472; clear BK481; clear BK488; clear BK495; clear BK520; clear BK527; clear BK534; clear HB; have BK472 := n0_; have BK481 := n1_; have BK488 := n2_; have BK495 := n3_; have BK520 := n4_; have BK527 := n5_; have BK534 := n6_; have HB := n7_; clear n0_ n1_ n2_ n3_ n4_ n5_ n6_ n7_; obtain ⟨hcz93_0, hcz93_1, hcz93_2, hcz93_3, hcz93_4, hcz93_5, hfz93_0, hfz93_1, hfz93_2, hfz93_3, hfz93_4, hfz93_5⟩ := cells6 BK472.out) | ((with_reducible refine gate_dst (N := 52) rfl ?_); (with_reducible refine gate_callee (f := 26) rfl ?_); refine goesL_ (some 52) rfl rfl Tryd.func26 (by kernel_rfl) rfl #[.agg #[.int .u64 a0_0, .int .u64 a0_1, .int .u64 a0_2, .int .i64 a0_3, .int .i64 a0_4, .bool a0_5]] rfl (by (try simp only [List.map_toArray, List.map_cons, List.map_nil]); first | done | rfl | (simp only [List.length_drop, List.length_take]; rfl)) ?_; (with_reducible refine (cap_Clear.calls a0_0 a0_1 a0_2 a0_3 a0_4 a0_5 t535 t536 t537 t538 t539 t540 _ A51.out).mono ?_); rintro e w94 ⟨rfl, hb⟩; refine ⟨_, rfl, ?_⟩; have n0_ := Aside0.mk (blk_below (g := gb472) (o := .cells #[.int .u64 a0_0, .int .u64 a0_1, .int .u64 a0_2, .int .i64 a0_3, .int .i64 a0_4, .bool a0_5] 24 (0, 0)) (by (with_reducible repeat (first | refine blk_drewN ?_ _ | refine blk_drew ?_ | refine blk_alloc ?_ _)); exact BK472.out) hb); have n1_ := Aside0.mk (blk_below (g := gb481) (o := .cells #[.int .u64 t475, .int .u64 t476, .int .u64 t477, .int .i64 t478, .int .i64 t479, .bool t480] 24 (0, 0)) (by (with_reducible repeat (first | refine blk_drewN ?_ _ | refine blk_drew ?_ | refine blk_alloc ?_ _)); exact BK481.out) hb); have n2_ := Aside0.mk (blk_below (g := gb488) (o := .cells #[.int .u64 t482, .int .u64 t483, .int .u64 t484, .int .i64 t485, .int .i64 t486, .bool t487] 24 (0, 0)) (by (with_reducible repeat (first | refine blk_drewN ?_ _ | refine blk_drew ?_ | refine blk_alloc ?_ _)); exact BK488.out) hb); have n3_ := Aside0.mk (blk_below (g := gb495) (o := .cells #[.int .u64 t489, .int .u64 t490, .int .u64 t491, .int .i64 t492, .int .i64 t493, .bool t494] 24 (0, 0)) (by (with_reducible repeat (first | refine blk_drewN ?_ _ | refine blk_drew ?_ | refine blk_alloc ?_ _)); exact BK495.out) hb); have n4_ := Aside0.mk (blk_below (g := gb520) (o := .cells #[.int .u64 t514, .int .u64 t515, .int .u64 t516, .int .i64 t517, .int .i64 t518, .bool t519] 24 (0, 0)) (by (with_reducible repeat (first | refine blk_drewN ?_ _ | refine blk_drew ?_ | refine blk_alloc ?_ _)); exact BK520.out) hb); have n5_ := Aside0.mk (blk_below (g := gb527) (o := .cells #[.int .u64 t521, .int .u64 t522, .int .u64 t523, .int .i64 t524, .int .i64 t525, .bool t526] 24 (0, 0)) (by (with_reducible repeat (first | refine blk_drewN ?_ _ | refine blk_drew ?_ | refine blk_alloc ?_ _)); exact BK527.out) hb); have n6_ := Aside0.mk (blk_below (g := gb534) (o := .cells #[.int .u64 t528, .int .u64 t529, .int .u64 t530, .int .i64 t531, .int .i64 t532, .bool t533] 24 (0, 0)) (by (with_reducible repeat (first | refine blk_drewN ?_ _ | refine blk_drew ?_ | refine blk_alloc ?_ _)); exact BK534.out) hb); have n7_ := Aside0.mk (below_step (by repeat (first | (with_reducible first | exact HB.out | apply below_alloc | apply pw_below_drewN | apply below_drew1 | refine below_set ?_ GE472.out | refine below_set ?_ GE481.out | refine below_set ?_ GE488.out | refine below_set ?_ GE495.out | refine below_set ?_ GE520.out | refine below_set ?_ GE527.out | refine below_set ?_ GE534.out) | exact HB.out)) hb); clear BK472; clear BK481; clear BK488; clear BK495; clear BK520; clear BK527; clear BK534; clear HB; have BK472 := n0_; have BK481 := n1_; have BK488 := n2_; have BK495 := n3_; have BK520 := n4_; have BK527 := n5_; have BK534 := n6_; have HB := n7_; clear n0_ n1_ n2_ n3_ n4_ n5_ n6_ n7_; (try clear hb); (try clear hb2); (try clear hk); (try clear hi)) | ((with_reducible refine gate_dst (N := 15) rfl ?_); refine box_event ?hg (N := 15) ?hd (cs := #[.int .u64 0, .int .u64 0, .int .u64 0, .int .i64 0, .int .i64 0, .bool false]) (t := 24) ?hr ?_; (case hd => rfl); (case hg => rfl); (case hr => first | (go_simp; done) | (go_simp; rfl)); intro gb541 hg w95 hbox hb; have n0_ := Aside0.mk (blk_below (g := gb472) (o := .cells #[.int .u64 a0_0, .int .u64 a0_1, .int .u64 a0_2, .int .i64 a0_3, .int .i64 a0_4, .bool a0_5] 24 (0, 0)) (by (with_reducible repeat (first | refine blk_drewN ?_ _ | refine blk_drew ?_ | refine blk_alloc ?_ _)); exact BK472.out) hb); have n1_ := Aside0.mk (blk_below (g := gb481) (o := .cells #[.int .u64 t475, .int .u64 t476, .int .u64 t477, .int .i64 t478, .int .i64 t479, .bool t480] 24 (0, 0)) (by (with_reducible repeat (first | refine blk_drewN ?_ _ | refine blk_drew ?_ | refine blk_alloc ?_ _)); exact BK481.out) hb); have n2_ := Aside0.mk (blk_below (g := gb488) (o := .cells #[.int .u64 t482, .int .u64 t483, .int .u64 t484, .int .i64 t485, .int .i64 t486, .bool t487] 24 (0, 0)) (by (with_reducible repeat (first | refine blk_drewN ?_ _ | refine blk_drew ?_ | refine blk_alloc ?_ _)); exact BK488.out) hb); have n3_ := Aside0.mk (blk_below (g := gb495) (o := .cells #[.int .u64 t489, .int .u64 t490, .int .u64 t491, .int .i64 t492, .int .i64 t493, .bool t494] 24 (0, 0)) (by (with_reducible repeat (first | refine blk_drewN ?_ _ | refine blk_drew ?_ | refine blk_alloc ?_ _)); exact BK495.out) hb); have n4_ := Aside0.mk (blk_below (g := gb520) (o := .cells #[.int .u64 t514, .int .u64 t515, .int .u64 t516, .int .i64 t517, .int .i64 t518, .bool t519] 24 (0, 0)) (by (with_reducible repeat (first | refine blk_drewN ?_ _ | refine blk_drew ?_ | refine blk_alloc ?_ _)); exact BK520.out) hb); have n5_ := Aside0.mk (blk_below (g := gb527) (o := .cells #[.int .u64 t521, .int .u64 t522, .int .u64 t523, .int .i64 t524, .int .i64 t525, .bool t526] 24 (0, 0)) (by (with_reducible repeat (first | refine blk_drewN ?_ _ | refine blk_drew ?_ | refine blk_alloc ?_ _)); exact BK527.out) hb); have n6_ := Aside0.mk (blk_below (g := gb534) (o := .cells #[.int .u64 t528, .int .u64 t529, .int .u64 t530, .int .i64 t531, .int .i64 t532, .bool t533] 24 (0, 0)) (by (with_reducible repeat (first | refine blk_drewN ?_ _ | refine blk_drew ?_ | refine blk_alloc ?_ _)); exact BK534.out) hb); have n7_ := Aside0.mk (below_step (by repeat (first | (with_reducible first | exact HB.out | apply below_alloc | apply pw_below_drewN | apply below_drew1 | refine below_set ?_ GE472.out | refine below_set ?_ GE481.out | refine below_set ?_ GE488.out | refine below_set ?_ GE495.out | refine below_set ?_ GE520.out | refine below_set ?_ GE527.out | refine below_set ?_ GE534.out) | exact HB.out)) hb); have n8_ := Aside0.mk (hbox); have n9_ := Aside0.mk ((by rw [hg]; exact (below_size (by repeat (first | (with_reducible first | exact HB.out | apply below_alloc | apply pw_below_drewN | apply below_drew1 | refine below_set ?_ GE472.out | refine below_set ?_ GE481.out | refine below_set ?_ GE488.out | refine below_set ?_ GE495.out | refine below_set ?_ GE520.out | refine below_set ?_ GE527.out | refine below_set ?_ GE534.out) | exact HB.out))) : w.heap.size ≤ gb541)); have n10_ := n9_; have n11_ := Aside0.mk ((by rw [hg]; exact Nat.ne_of_lt (blk_lt (g := gb472) (o := .cells #[.int .u64 a0_0, .int .u64 a0_1, .int .u64 a0_2, .int .i64 a0_3, .int .i64 a0_4, .bool a0_5] 24 (0, 0)) (by (with_reducible repeat (first | refine blk_drewN ?_ _ | refine blk_drew ?_ | refine blk_alloc ?_ _)); exact BK472.out)) : gb472 ≠ gb541)); have n12_ := Aside0.mk n11_.out.symm; have n13_ := Aside0.mk ((by rw [hg]; exact Nat.ne_of_lt (blk_lt (g := gb481) (o := .cells #[.int .u64 t475, .int .u64 t476, .int .u64 t477, .int .i64 t478, .int .i64 t479, .bool t480] 24 (0, 0)) (by (with_reducible repeat (first | refine blk_drewN ?_ _ | refine blk_drew ?_ | refine blk_alloc ?_ _)); exact BK481.out)) : gb481 ≠ gb541)); have n14_ := Aside0.mk n13_.out.symm; have n15_ := Aside0.mk ((by rw [hg]; exact Nat.ne_of_lt (blk_lt (g := gb488) (o := .cells #[.int .u64 t482, .int .u64 t483, .int .u64 t484, .int .i64 t485, .int .i64 t486, .bool t487] 24 (0, 0)) (by (with_reducible repeat (first | refine blk_drewN ?_ _ | refine blk_drew ?_ | refine blk_alloc ?_ _)); exact BK488.out)) : gb488 ≠ gb541)); have n16_ := Aside0.mk n15_.out.symm; have n17_ := Aside0.mk ((by rw [hg]; exact Nat.ne_of_lt (blk_lt (g := gb495) (o := .cells #[.int .u64 t489, .int .u64 t490, .int .u64 t491, .int .i64 t492, .int .i64 t493, .bool t494] 24 (0, 0)) (by (with_reducible repeat (first | refine blk_drewN ?_ _ | refine blk_drew ?_ | refine blk_alloc ?_ _)); exact BK495.out)) : gb495 ≠ gb541)); have n18_ := Aside0.mk n17_.out.symm; have n19_ := Aside0.mk ((by rw [hg]; exact Nat.ne_of_lt (blk_lt (g := gb520) (o := .cells #[.int .u64 t514, .int .u64 t515, .int .u64 t516, .int .i64 t517, .int .i64 t518, .bool t519] 24 (0, 0)) (by (with_reducible repeat (first | refine blk_drewN ?_ _ | refine blk_drew ?_ | refine blk_alloc ?_ _)); exact BK520.out)) : gb520 ≠ gb541)); have n20_ := Aside0.mk n19_.out.symm; have n21_ := Aside0.mk ((by rw [hg]; exact Nat.ne_of_lt (blk_lt (g := gb527) (o := .cells #[.int .u64 t521, .int .u64 t522, .int .u64 t523, .int .i64 t524, .int .i64 t525, .bool t526] 24 (0, 0)) (by (with_reducible repeat (first | refine blk_drewN ?_ _ | refine blk_drew ?_ | refine blk_alloc ?_ _)); exact BK527.out)) : gb527 ≠ gb541)); have n22_ := Aside0.mk n21_.out.symm; have n23_ := Aside0.mk ((by rw [hg]; exact Nat.ne_of_lt (blk_lt (g := gb534) (o := .cells #[.int .u64 t528, .int .u64 t529, .int .u64 t530, .int .i64 t531, .int .i64 t532, .bool t533] 24 (0, 0)) (by (with_reducible repeat (first | refine blk_drewN ?_ _ | refine blk_drew ?_ | refine blk_alloc ?_ _)); exact BK534.out)) : gb534 ≠ gb541)); have n24_ := Aside0.mk n23_.out.symm; clear BK472; clear BK481; clear BK488; clear BK495; clear BK520; clear BK527; clear BK534; clear HB; have BK472 := n0_; have BK481 := n1_; have BK488 := n2_; have BK495 := n3_; have BK520 := n4_; have BK527 := n5_; have BK534 := n6_; have HB := n7_; have BK541 := n8_; have GW541 := n9_; have GE541 := n10_; have NB472_541 := n11_; have NB541_472 := n12_; have NB481_541 := n13_; have NB541_481 := n14_; have NB488_541 := n15_; have NB541_488 := n16_; have NB495_541 := n17_; have NB541_495 := n18_; have NB520_541 := n19_; have NB541_520 := n20_; have NB527_541 := n21_; have NB541_527 := n22_; have NB534_541 := n23_; have NB541_534 := n24_; clear n0_ n1_ n2_ n3_ n4_ n5_ n6_ n7_ n8_ n9_ n10_ n11_ n12_ n13_ n14_ n15_ n16_ n17_ n18_ n19_ n20_ n21_ n22_ n23_ n24_; clear hb hbox hg; have hnb96 := NB541_472.out; have hnc96 := NB472_541.out; have hnb97 := NB541_481.out; have hnc97 := NB481_541.out; have hnb98 := NB541_488.out; have hnc98 := NB488_541.out; have hnb99 := NB541_495.out; have hnc99 := NB495_541.out; have hnb100 := NB541_520.out; have hnc100 := NB520_541.out; have hnb101 := NB541_527.out; have hnc101 := NB527_541.out; have hnb102 := NB541_534.out; have hnc102 := NB534_541.out; obtain ⟨hcz103_0, hcz103_1, hcz103_2, hcz103_3, hcz103_4, hcz103_5, hfz103_0, hfz103_1, hfz103_2, hfz103_3, hfz103_4, hfz103_5⟩ := cells6 BK541.out) | ((with_reducible refine gate_store (t := 24) (p := 15) rfl ?_); refine store_event (t := 24) (p := 15) (v := ?vo_w104) (w1 := ((((((w95.setCell ⟨gb541, 0, none⟩ (.int .u64 t535)).setCell ⟨gb541, 1, none⟩ (.int .u64 t536)).setCell ⟨gb541, 2, none⟩ (.int .u64 t537)).setCell ⟨gb541, 3, none⟩ (.int .i64 t538)).setCell ⟨gb541, 4, none⟩ (.int .i64 t539)).setCell ⟨gb541, 5, none⟩ (.bool t540))) ?hg ?ho ?hn ?hr ?_; (case ho => rfl); (case hg => rfl); (case hn => rfl); (case hr => first | (go_simp; done) | (go_simp; rfl)); intro w104 hw; have n0_ : Aside0 (w104.heap[gb472]? = some (.cells #[.int .u64 a0_0, .int .u64 a0_1, .int .u64 a0_2, .int .i64 a0_3, .int .i64 a0_4, .bool a0_5] 24 (0, 0))) := ⟨(by rw [hw]; exact (by (with_reducible repeat (first | refine blk_drewN ?_ _ | refine blk_drew ?_ | refine blk_alloc ?_ _)); refine blk_far ?_ NB472_541.out _; (with_reducible repeat (first | refine blk_drewN ?_ _ | refine blk_drew ?_ | refine blk_alloc ?_ _)); refine blk_far ?_ NB472_541.out _; (with_reducible repeat (first | refine blk_drewN ?_ _ | refine blk_drew ?_ | refine blk_alloc ?_ _)); refine blk_far ?_ NB472_541.out _; (with_reducible repeat (first | refine blk_drewN ?_ _ | refine blk_drew ?_ | refine blk_alloc ?_ _)); refine blk_far ?_ NB472_541.out _; (with_reducible repeat (first | refine blk_drewN ?_ _ | refine blk_drew ?_ | refine blk_alloc ?_ _)); refine blk_far ?_ NB472_541.out _; (with_reducible repeat (first | refine blk_drewN ?_ _ | refine blk_drew ?_ | refine blk_alloc ?_ _)); refine blk_far ?_ NB472_541.out _; (with_reducible repeat (first | refine blk_drewN ?_ _ | refine blk_drew ?_ | refine blk_alloc ?_ _)); exact BK472.out))⟩; have n1_ : Aside0 (w104.heap[gb481]? = some (.cells #[.int .u64 t475, .int .u64 t476, .int .u64 t477, .int .i64 t478, .int .i64 t479, .bool t480] 24 (0, 0))) := ⟨(by rw [hw]; exact (by (with_reducible repeat (first | refine blk_drewN ?_ _ | refine blk_drew ?_ | refine blk_alloc ?_ _)); refine blk_far ?_ NB481_541.out _; (with_reducible repeat (first | refine blk_drewN ?_ _ | refine blk_drew ?_ | refine blk_alloc ?_ _)); refine blk_far ?_ NB481_541.out _; (with_reducible repeat (first | refine blk_drewN ?_ _ | refine blk_drew ?_ | refine blk_alloc ?_ _)); refine blk_far ?_ NB481_541.out _; (with_reducible repeat (first | refine blk_drewN ?_ _ | refine blk_drew ?_ | refine blk_alloc ?_ _)); refine blk_far ?_ NB481_541.out _; (with_reducible repeat (first | refine blk_drewN ?_ _ | refine blk_drew ?_ | refine blk_alloc ?_ _)); refine blk_far ?_ NB481_541.out _; (with_reducible repeat (first | refine blk_drewN ?_ _ | refine blk_drew ?_ | refine blk_alloc ?_ _)); refine blk_far ?_ NB481_541.out _; (with_reducible repeat (first | refine blk_drewN ?_ _ | refine blk_drew ?_ | refine blk_alloc ?_ _)); exact BK481.out))⟩; have n2_ : Aside0 (w104.heap[gb488]? = some (.cells #[.int .u64 t482, .int .u64 t483, .int .u64 t484, .int .i64 t485, .int .i64 t486, .bool t487] 24 (0, 0))) := ⟨(by rw [hw]; exact (by (with_reducible repeat (first | refine blk_drewN ?_ _ | refine blk_drew ?_ | refine blk_alloc ?_ _)); refine blk_far ?_ NB488_541.out _; (with_reducible repeat (first | refine blk_drewN ?_ _ | refine blk_drew ?_ | refine blk_alloc ?_ _)); refine blk_far ?_ NB488_541.out _; (with_reducible repeat (first | refine blk_drewN ?_ _ | refine blk_drew ?_ | refine blk_alloc ?_ _)); refine blk_far ?_ NB488_541.out _; (with_reducible repeat (first | refine blk_drewN ?_ _ | refine blk_drew ?_ | refine blk_alloc ?_ _)); refine blk_far ?_ NB488_541.out _; (with_reducible repeat (first | refine blk_drewN ?_ _ | refine blk_drew ?_ | refine blk_alloc ?_ _)); refine blk_far ?_ NB488_541.out _; (with_reducible repeat (first | refine blk_drewN ?_ _ | refine blk_drew ?_ | refine blk_alloc ?_ _)); refine blk_far ?_ NB488_541.out _; (with_reducible repeat (first | refine blk_drewN ?_ _ | refine blk_drew ?_ | refine blk_alloc ?_ _)); exact BK488.out))⟩; have n3_ : Aside0 (w104.heap[gb495]? = some (.cells #[.int .u64 t489, .int .u64 t490, .int .u64 t491, .int .i64 t492, .int .i64 t493, .bool t494] 24 (0, 0))) := ⟨(by rw [hw]; exact (by (with_reducible repeat (first | refine blk_drewN ?_ _ | refine blk_drew ?_ | refine blk_alloc ?_ _)); refine blk_far ?_ NB495_541.out _; (with_reducible repeat (first | refine blk_drewN ?_ _ | refine blk_drew ?_ | refine blk_alloc ?_ _)); refine blk_far ?_ NB495_541.out _; (with_reducible repeat (first | refine blk_drewN ?_ _ | refine blk_drew ?_ | refine blk_alloc ?_ _)); refine blk_far ?_ NB495_541.out _; (with_reducible repeat (first | refine blk_drewN ?_ _ | refine blk_drew ?_ | refine blk_alloc ?_ _)); refine blk_far ?_ NB495_541.out _; (with_reducible repeat (first | refine blk_drewN ?_ _ | refine blk_drew ?_ | refine blk_alloc ?_ _)); refine blk_far ?_ NB495_541.out _; (with_reducible repeat (first | refine blk_drewN ?_ _ | refine blk_drew ?_ | refine blk_alloc ?_ _)); refine blk_far ?_ NB495_541.out _; (with_reducible repeat (first | refine blk_drewN ?_ _ | refine blk_drew ?_ | refine blk_alloc ?_ _)); exact BK495.out))⟩; have n4_ : Aside0 (w104.heap[gb520]? = some (.cells #[.int .u64 t514, .int .u64 t515, .int .u64 t516, .int .i64 t517, .int .i64 t518, .bool t519] 24 (0, 0))) := ⟨(by rw [hw]; exact (by (with_reducible repeat (first | refine blk_drewN ?_ _ | refine blk_drew ?_ | refine blk_alloc ?_ _)); refine blk_far ?_ NB520_541.out _; (with_reducible repeat (first | refine blk_drewN ?_ _ | refine blk_drew ?_ | refine blk_alloc ?_ _)); refine blk_far ?_ NB520_541.out _; (with_reducible repeat (first | refine blk_drewN ?_ _ | refine blk_drew ?_ | refine blk_alloc ?_ _)); refine blk_far ?_ NB520_541.out _; (with_reducible repeat (first | refine blk_drewN ?_ _ | refine blk_drew ?_ | refine blk_alloc ?_ _)); refine blk_far ?_ NB520_541.out _; (with_reducible repeat (first | refine blk_drewN ?_ _ | refine blk_drew ?_ | refine blk_alloc ?_ _)); refine blk_far ?_ NB520_541.out _; (with_reducible repeat (first | refine blk_drewN ?_ _ | refine blk_drew ?_ | refine blk_alloc ?_ _)); refine blk_far ?_ NB520_541.out _; (with_reducible repeat (first | refine blk_drewN ?_ _ | refine blk_drew ?_ | refine blk_alloc ?_ _)); exact BK520.out))⟩; have n5_ : Aside0 (w104.heap[gb527]? = some (.cells #[.int .u64 t521, .int .u64 t522, .int .u64 t523, .int .i64 t524, .int .i64 t525, .bool t526] 24 (0, 0))) := ⟨(by rw [hw]; exact (by (with_reducible repeat (first | refine blk_drewN ?_ _ | refine blk_drew ?_ | refine blk_alloc ?_ _)); refine blk_far ?_ NB527_541.out _; (with_reducible repeat (first | refine blk_drewN ?_ _ | refine blk_drew ?_ | refine blk_alloc ?_ _)); refine blk_far ?_ NB527_541.out _; (with_reducible repeat (first | refine blk_drewN ?_ _ | refine blk_drew ?_ | refine blk_alloc ?_ _)); refine blk_far ?_ NB527_541.out _; (with_reducible repeat (first | refine blk_drewN ?_ _ | refine blk_drew ?_ | refine blk_alloc ?_ _)); refine blk_far ?_ NB527_541.out _; (with_reducible repeat (first | refine blk_drewN ?_ _ | refine blk_drew ?_ | refine blk_alloc ?_ _)); refine blk_far ?_ NB527_541.out _; (with_reducible repeat (first | refine blk_drewN ?_ _ | refine blk_drew ?_ | refine blk_alloc ?_ _)); refine blk_far ?_ NB527_541.out _; (with_reducible repeat (first | refine blk_drewN ?_ _ | refine blk_drew ?_ | refine blk_alloc ?_ _)); exact BK527.out))⟩; have n6_ : Aside0 (w104.heap[gb534]? = some (.cells #[.int .u64 t528, .int .u64 t529, .int .u64 t530, .int .i64 t531, .int .i64 t532, .bool t533] 24 (0, 0))) := ⟨(by rw [hw]; exact (by (with_reducible repeat (first | refine blk_drewN ?_ _ | refine blk_drew ?_ | refine blk_alloc ?_ _)); refine blk_far ?_ NB534_541.out _; (with_reducible repeat (first | refine blk_drewN ?_ _ | refine blk_drew ?_ | refine blk_alloc ?_ _)); refine blk_far ?_ NB534_541.out _; (with_reducible repeat (first | refine blk_drewN ?_ _ | refine blk_drew ?_ | refine blk_alloc ?_ _)); refine blk_far ?_ NB534_541.out _; (with_reducible repeat (first | refine blk_drewN ?_ _ | refine blk_drew ?_ | refine blk_alloc ?_ _)); refine blk_far ?_ NB534_541.out _; (with_reducible repeat (first | refine blk_drewN ?_ _ | refine blk_drew ?_ | refine blk_alloc ?_ _)); refine blk_far ?_ NB534_541.out _; (with_reducible repeat (first | refine blk_drewN ?_ _ | refine blk_drew ?_ | refine blk_alloc ?_ _)); refine blk_far ?_ NB534_541.out _; (with_reducible repeat (first | refine blk_drewN ?_ _ | refine blk_drew ?_ | refine blk_alloc ?_ _)); exact BK534.out))⟩; have n7_ : Aside0 (w104.heap[gb541]? = some (.cells #[.int .u64 t535, .int .u64 t536, .int .u64 t537, .int .i64 t538, .int .i64 t539, .bool t540] 24 (0, 0))) := ⟨(by rw [hw]; exact (by (with_reducible repeat (first | refine blk_drewN ?_ _ | refine blk_drew ?_ | refine blk_alloc ?_ _)); refine blk_put (cs := #[.int .u64 t535, .int .u64 t536, .int .u64 t537, .int .i64 t538, .int .i64 t539, .bool false]) ?_ 5 _ rfl; (with_reducible repeat (first | refine blk_drewN ?_ _ | refine blk_drew ?_ | refine blk_alloc ?_ _)); refine blk_put (cs := #[.int .u64 t535, .int .u64 t536, .int .u64 t537, .int .i64 t538, .int .i64 0, .bool false]) ?_ 4 _ rfl; (with_reducible repeat (first | refine blk_drewN ?_ _ | refine blk_drew ?_ | refine blk_alloc ?_ _)); refine blk_put (cs := #[.int .u64 t535, .int .u64 t536, .int .u64 t537, .int .i64 0, .int .i64 0, .bool false]) ?_ 3 _ rfl; (with_reducible repeat (first | refine blk_drewN ?_ _ | refine blk_drew ?_ | refine blk_alloc ?_ _)); refine blk_put (cs := #[.int .u64 t535, .int .u64 t536, .int .u64 0, .int .i64 0, .int .i64 0, .bool false]) ?_ 2 _ rfl; (with_reducible repeat (first | refine blk_drewN ?_ _ | refine blk_drew ?_ | refine blk_alloc ?_ _)); refine blk_put (cs := #[.int .u64 t535, .int .u64 0, .int .u64 0, .int .i64 0, .int .i64 0, .bool false]) ?_ 1 _ rfl; (with_reducible repeat (first | refine blk_drewN ?_ _ | refine blk_drew ?_ | refine blk_alloc ?_ _)); refine blk_put (cs := #[.int .u64 0, .int .u64 0, .int .u64 0, .int .i64 0, .int .i64 0, .bool false]) ?_ 0 _ rfl; (with_reducible repeat (first | refine blk_drewN ?_ _ | refine blk_drew ?_ | refine blk_alloc ?_ _)); exact BK541.out))⟩; have n8_ : Aside0 (Below w.heap.size w w104) := ⟨(by rw [hw]; exact (by repeat (first | (with_reducible first | exact HB.out | apply below_alloc | apply pw_below_drewN | apply below_drew1 | refine below_set ?_ GE472.out | refine below_set ?_ GE481.out | refine below_set ?_ GE488.out | refine below_set ?_ GE495.out | refine below_set ?_ GE520.out | refine below_set ?_ GE527.out | refine below_set ?_ GE534.out | refine below_set ?_ GE541.out) | exact HB.out)))⟩; clear hw; clear BK472; clear BK481; clear BK488; clear BK495; clear BK520; clear BK527; clear BK534; clear BK541; clear HB; have BK472 := n0_; have BK481 := n1_; have BK488 := n2_; have BK495 := n3_; have BK520 := n4_; have BK527 := n5_; have BK534 := n6_; have BK541 := n7_; have HB := n8_; clear n0_ n1_ n2_ n3_ n4_ n5_ n6_ n7_ n8_))
                  have n0_ := Aside0.mk (blk_drew BK472.out)
                  have n1_ := Aside0.mk (blk_drew BK481.out)
                  have n2_ := Aside0.mk (blk_drew BK488.out)
                  have n3_ := Aside0.mk (blk_drew BK495.out)
                  have n4_ := Aside0.mk (blk_drew BK520.out)
                  have n5_ := Aside0.mk (blk_drew BK527.out)
                  have n6_ := Aside0.mk (blk_drew BK534.out)
                  have n7_ := Aside0.mk (blk_drew BK541.out)
                  have n8_ := Aside0.mk (below_drew1 HB.out)
                  clear BK472
                  clear BK481
                  clear BK488
                  clear BK495
                  clear BK520
                  clear BK527
                  clear BK534
                  clear BK541
                  clear HB
                  have BK472 := n0_
                  have BK481 := n1_
                  have BK488 := n2_
                  have BK495 := n3_
                  have BK520 := n4_
                  have BK527 := n5_
                  have BK534 := n6_
                  have BK541 := n7_
                  have HB := n8_
                  clear n0_ n1_ n2_ n3_ n4_ n5_ n6_ n7_ n8_
                  refine start_ (n := 29) (S := fun w' => w'.cell? ⟨gb520, 0, none⟩ = some (.int .u64 t514) ∧ w'.cell? ⟨gb520, 1, none⟩ = some (.int .u64 t515) ∧ w'.cell? ⟨gb520, 2, none⟩ = some (.int .u64 t516) ∧ w'.cell? ⟨gb520, 3, none⟩ = some (.int .i64 t517) ∧ w'.cell? ⟨gb520, 4, none⟩ = some (.int .i64 t518) ∧ w'.cell? ⟨gb520, 5, none⟩ = some (.bool t519) ∧ w'.cell? ⟨gb472, 0, none⟩ = some (.int .u64 a0_0) ∧ w'.cell? ⟨gb472, 1, none⟩ = some (.int .u64 a0_1) ∧ w'.cell? ⟨gb472, 2, none⟩ = some (.int .u64 a0_2) ∧ w'.cell? ⟨gb472, 3, none⟩ = some (.int .i64 a0_3) ∧ w'.cell? ⟨gb472, 4, none⟩ = some (.int .i64 a0_4) ∧ w'.cell? ⟨gb472, 5, none⟩ = some (.bool a0_5) ∧ w'.cell? ⟨gb527, 0, none⟩ = some (.int .u64 t521) ∧ w'.cell? ⟨gb527, 1, none⟩ = some (.int .u64 t522) ∧ w'.cell? ⟨gb527, 2, none⟩ = some (.int .u64 t523) ∧ w'.cell? ⟨gb527, 3, none⟩ = some (.int .i64 t524) ∧ w'.cell? ⟨gb527, 4, none⟩ = some (.int .i64 t525) ∧ w'.cell? ⟨gb527, 5, none⟩ = some (.bool t526) ∧ w'.cell? ⟨gb534, 0, none⟩ = some (.int .u64 t528) ∧ w'.cell? ⟨gb534, 1, none⟩ = some (.int .u64 t529) ∧ w'.cell? ⟨gb534, 2, none⟩ = some (.int .u64 t530) ∧ w'.cell? ⟨gb534, 3, none⟩ = some (.int .i64 t531) ∧ w'.cell? ⟨gb534, 4, none⟩ = some (.int .i64 t532) ∧ w'.cell? ⟨gb534, 5, none⟩ = some (.bool t533) ∧ w'.cell? ⟨gb541, 0, none⟩ = some (.int .u64 t535) ∧ w'.cell? ⟨gb541, 1, none⟩ = some (.int .u64 t536) ∧ w'.cell? ⟨gb541, 2, none⟩ = some (.int .u64 t537) ∧ w'.cell? ⟨gb541, 3, none⟩ = some (.int .i64 t538) ∧ w'.cell? ⟨gb541, 4, none⟩ = some (.int .i64 t539) ∧ w'.cell? ⟨gb541, 5, none⟩ = some (.bool t540)) (ds := []) #[false, false, false, false, false, false, false, false, false, false, false, false, false, false, false, false, false, false, false, false, false, false, false, false, false, false, false, false, false] (by kernel_rfl) rfl rfl ⟨(blk_cell BK520.out 0).trans rfl, (blk_cell BK520.out 1).trans rfl, (blk_cell BK520.out 2).trans rfl, (blk_cell BK520.out 3).trans rfl, (blk_cell BK520.out 4).trans rfl, (blk_cell BK520.out 5).trans rfl, (blk_cell BK472.out 0).trans rfl, (blk_cell BK472.out 1).trans rfl, (blk_cell BK472.out 2).trans rfl, (blk_cell BK472.out 3).trans rfl, (blk_cell BK472.out 4).trans rfl, (blk_cell BK472.out 5).trans rfl, (blk_cell BK527.out 0).trans rfl, (blk_cell BK527.out 1).trans rfl, (blk_cell BK527.out 2).trans rfl, (blk_cell BK527.out 3).trans rfl, (blk_cell BK527.out 4).trans rfl, (blk_cell BK527.out 5).trans rfl, (blk_cell BK534.out 0).trans rfl, (blk_cell BK534.out 1).trans rfl, (blk_cell BK534.out 2).trans rfl, (blk_cell BK534.out 3).trans rfl, (blk_cell BK534.out 4).trans rfl, (blk_cell BK534.out 5).trans rfl, (blk_cell BK541.out 0).trans rfl, (blk_cell BK541.out 1).trans rfl, (blk_cell BK541.out 2).trans rfl, (blk_cell BK541.out 3).trans rfl, (blk_cell BK541.out 4).trans rfl, (blk_cell BK541.out 5).trans rfl⟩ (fun hHeld => ?_); refine with_tabW curtilagelaw02_CapMakes.tab14 curtilagelaw02_CapMakes.bits14 (fun HT_ HW_ => ?_)
                  generalize w104.drew = w105 at BK472 BK481 BK488 BK495 BK520 BK527 BK534 BK541 HB hHeld ⊢
                  refine pure_ (i := 0) (N := some 53) (v := ?_) (a' := ?_) #[true, false, false, false, false, false, false, false, false, false, false, false, false, false, false, false, false, false, false, false, false, false, false, false, false, false, false, false, false] rfl rfl (any_of HT_.out (by kernel_rfl)) (fun _ _ _ h => h) (Or.inl ⟨by rfl, ?_⟩) ?_ ?_
                  rotate_left
                  · intro w'
                    go_simp
                    with_reducible rfl
                  rotate_left
                  · simp only [Act.put, List.setIfInBounds_toArray, List.set_cons_zero, List.set_cons_succ, i64_w, i32_w]
                    rfl
                  refine pure_ (i := 1) (N := some 54) (v := ?_) (a' := ?_) #[true, true, false, false, false, false, false, false, false, false, false, false, false, false, false, false, false, false, false, false, false, false, false, false, false, false, false, false, false] rfl rfl (any_of HT_.out (by kernel_rfl)) (fun _ _ _ h => h) (Or.inl ⟨by rfl, ?_⟩) ?_ ?_
                  rotate_left
                  · intro w'
                    go_simp
                    with_reducible rfl
                  rotate_left
                  · simp only [Act.put, List.setIfInBounds_toArray, List.set_cons_zero, List.set_cons_succ, i64_w, i32_w]
                    rfl
                  refine pure_ (i := 4) (N := some 57) (v := ?_) (a' := ?_) #[true, true, false, false, true, false, false, false, false, false, false, false, false, false, false, false, false, false, false, false, false, false, false, false, false, false, false, false, false] rfl rfl (any_of HT_.out (by kernel_rfl)) (fun _ _ _ h => h) (Or.inl ⟨by rfl, ?_⟩) ?_ ?_
                  rotate_left
                  · intro w'
                    go_simp
                    with_reducible rfl
                  rotate_left
                  · simp only [Act.put, List.setIfInBounds_toArray, List.set_cons_zero, List.set_cons_succ, i64_w, i32_w]
                    rfl
                  refine take_ (i := 2) (N := some 55) (v := ?_) (a' := ?_) #[true, true, true, false, true, false, false, false, false, false, false, false, false, false, false, false, false, false, false, false, false, false, false, false, false, false, false, false, false] rfl rfl (take_ofW HT_.out HW_.out (by kernel_rfl)) (fun _ _ _ h => h) (Or.inl ⟨by rfl, ?_⟩) hHeld ?_ ?_
                  rotate_left
                  · rintro w' ⟨s0, s1, s2, s3, s4, s5, s6, s7, s8, s9, s10, s11, s12, s13, s14, s15, s16, s17, s18, s19, s20, s21, s22, s23, s24, s25, s26, s27, s28, s29⟩
                    go_simp
                    with_reducible rfl
                  rotate_left
                  · simp only [Act.put, List.setIfInBounds_toArray, List.set_cons_zero, List.set_cons_succ, i64_w, i32_w]
                    rfl
                  refine take_ (i := 3) (N := some 56) (v := ?_) (a' := ?_) #[true, true, true, true, true, false, false, false, false, false, false, false, false, false, false, false, false, false, false, false, false, false, false, false, false, false, false, false, false] rfl rfl (take_ofW HT_.out HW_.out (by kernel_rfl)) (fun _ _ _ h => h) (Or.inl ⟨by rfl, ?_⟩) hHeld ?_ ?_
                  rotate_left
                  · rintro w' ⟨s0, s1, s2, s3, s4, s5, s6, s7, s8, s9, s10, s11, s12, s13, s14, s15, s16, s17, s18, s19, s20, s21, s22, s23, s24, s25, s26, s27, s28, s29⟩
                    go_simp
                    with_reducible rfl
                  rotate_left
                  · simp only [Act.put, List.setIfInBounds_toArray, List.set_cons_zero, List.set_cons_succ, i64_w, i32_w]
                    rfl
                  refine one_ (i := 5) (N := some 58) #[true, true, true, true, true, true, false, false, false, false, false, false, false, false, false, false, false, false, false, false, false, false, false, false, false, false, false, false, false] rfl rfl (one_of HT_.out (by kernel_rfl)) (by decide) (fun K hK => ?_)
                  refine goes_ Tryd.func27 (by kernel_rfl) rfl #[.agg #[.int .u64 a0_0, .int .u64 a0_1, .int .u64 a0_2, .int .i64 a0_3, .int .i64 a0_4, .bool a0_5], .int .u64 a1] (by rfl) rfl rfl (by (try simp only [List.map_toArray, List.map_cons, List.map_nil]); first | done | rfl | (simp only [List.length_drop, List.length_take]; rfl)) ?_
                  with_reducible refine (curtilageref02_Move.calls a0_0 a0_1 a0_2 a0_3 a0_4 a0_5 a1 t542 t543 t544 t545 t546 t547 _ A53.out).mono ?_
                  rintro e w106 ⟨rfl, hb⟩
                  refine ⟨_, rfl, ?_⟩
                  have n0_ := Aside0.mk (blk_below (g := gb472) (o := .cells #[.int .u64 a0_0, .int .u64 a0_1, .int .u64 a0_2, .int .i64 a0_3, .int .i64 a0_4, .bool a0_5] 24 (0, 0)) (by (with_reducible repeat (first | refine blk_drewN ?_ _ | refine blk_drew ?_ | refine blk_alloc ?_ _)); exact BK472.out) hb)
                  have n1_ := Aside0.mk (blk_below (g := gb481) (o := .cells #[.int .u64 t475, .int .u64 t476, .int .u64 t477, .int .i64 t478, .int .i64 t479, .bool t480] 24 (0, 0)) (by (with_reducible repeat (first | refine blk_drewN ?_ _ | refine blk_drew ?_ | refine blk_alloc ?_ _)); exact BK481.out) hb)
                  have n2_ := Aside0.mk (blk_below (g := gb488) (o := .cells #[.int .u64 t482, .int .u64 t483, .int .u64 t484, .int .i64 t485, .int .i64 t486, .bool t487] 24 (0, 0)) (by (with_reducible repeat (first | refine blk_drewN ?_ _ | refine blk_drew ?_ | refine blk_alloc ?_ _)); exact BK488.out) hb)
                  have n3_ := Aside0.mk (blk_below (g := gb495) (o := .cells #[.int .u64 t489, .int .u64 t490, .int .u64 t491, .int .i64 t492, .int .i64 t493, .bool t494] 24 (0, 0)) (by (with_reducible repeat (first | refine blk_drewN ?_ _ | refine blk_drew ?_ | refine blk_alloc ?_ _)); exact BK495.out) hb)
                  have n4_ := Aside0.mk (blk_below (g := gb520) (o := .cells #[.int .u64 t514, .int .u64 t515, .int .u64 t516, .int .i64 t517, .int .i64 t518, .bool t519] 24 (0, 0)) (by (with_reducible repeat (first | refine blk_drewN ?_ _ | refine blk_drew ?_ | refine blk_alloc ?_ _)); exact BK520.out) hb)
                  have n5_ := Aside0.mk (blk_below (g := gb527) (o := .cells #[.int .u64 t521, .int .u64 t522, .int .u64 t523, .int .i64 t524, .int .i64 t525, .bool t526] 24 (0, 0)) (by (with_reducible repeat (first | refine blk_drewN ?_ _ | refine blk_drew ?_ | refine blk_alloc ?_ _)); exact BK527.out) hb)
                  have n6_ := Aside0.mk (blk_below (g := gb534) (o := .cells #[.int .u64 t528, .int .u64 t529, .int .u64 t530, .int .i64 t531, .int .i64 t532, .bool t533] 24 (0, 0)) (by (with_reducible repeat (first | refine blk_drewN ?_ _ | refine blk_drew ?_ | refine blk_alloc ?_ _)); exact BK534.out) hb)
                  have n7_ := Aside0.mk (blk_below (g := gb541) (o := .cells #[.int .u64 t535, .int .u64 t536, .int .u64 t537, .int .i64 t538, .int .i64 t539, .bool t540] 24 (0, 0)) (by (with_reducible repeat (first | refine blk_drewN ?_ _ | refine blk_drew ?_ | refine blk_alloc ?_ _)); exact BK541.out) hb)
                  have n8_ := Aside0.mk (below_step (by repeat (first | (with_reducible first | exact HB.out | apply below_alloc | apply pw_below_drewN | apply below_drew1 | refine below_set ?_ GE472.out | refine below_set ?_ GE481.out | refine below_set ?_ GE488.out | refine below_set ?_ GE495.out | refine below_set ?_ GE520.out | refine below_set ?_ GE527.out | refine below_set ?_ GE534.out | refine below_set ?_ GE541.out) | exact HB.out)) hb)
                  clear BK472
                  clear BK481
                  clear BK488
                  clear BK495
                  clear BK520
                  clear BK527
                  clear BK534
                  clear BK541
                  clear HB
                  have BK472 := n0_
                  have BK481 := n1_
                  have BK488 := n2_
                  have BK495 := n3_
                  have BK520 := n4_
                  have BK527 := n5_
                  have BK534 := n6_
                  have BK541 := n7_
                  have HB := n8_
                  clear n0_ n1_ n2_ n3_ n4_ n5_ n6_ n7_ n8_
                  (try clear hb)
                  (try clear hb2)
                  (try clear hk)
                  (try clear hi)
                  refine hK.out _ _ ⟨(blk_cell BK520.out 0).trans rfl, (blk_cell BK520.out 1).trans rfl, (blk_cell BK520.out 2).trans rfl, (blk_cell BK520.out 3).trans rfl, (blk_cell BK520.out 4).trans rfl, (blk_cell BK520.out 5).trans rfl, (blk_cell BK472.out 0).trans rfl, (blk_cell BK472.out 1).trans rfl, (blk_cell BK472.out 2).trans rfl, (blk_cell BK472.out 3).trans rfl, (blk_cell BK472.out 4).trans rfl, (blk_cell BK472.out 5).trans rfl, (blk_cell BK527.out 0).trans rfl, (blk_cell BK527.out 1).trans rfl, (blk_cell BK527.out 2).trans rfl, (blk_cell BK527.out 3).trans rfl, (blk_cell BK527.out 4).trans rfl, (blk_cell BK527.out 5).trans rfl, (blk_cell BK534.out 0).trans rfl, (blk_cell BK534.out 1).trans rfl, (blk_cell BK534.out 2).trans rfl, (blk_cell BK534.out 3).trans rfl, (blk_cell BK534.out 4).trans rfl, (blk_cell BK534.out 5).trans rfl, (blk_cell BK541.out 0).trans rfl, (blk_cell BK541.out 1).trans rfl, (blk_cell BK541.out 2).trans rfl, (blk_cell BK541.out 3).trans rfl, (blk_cell BK541.out 4).trans rfl, (blk_cell BK541.out 5).trans rfl⟩ (fun hHeld => ?_)
                  clear hK K
                  refine norm_ (a' := ?_) ?_ ?_
                  rotate_left
                  · show Act.put _ (some 58) _ = _
                    simp only [Act.put, List.setIfInBounds_toArray, List.set_cons_zero, List.set_cons_succ, i64_w, i32_w]
                    rfl
                  refine pure_ (i := 6) (N := some 59) (v := ?_) (a' := ?_) #[true, true, true, true, true, true, true, false, false, false, false, false, false, false, false, false, false, false, false, false, false, false, false, false, false, false, false, false, false] rfl rfl (any_of HT_.out (by kernel_rfl)) (fun _ _ _ h => h) (Or.inl ⟨by rfl, ?_⟩) ?_ ?_
                  rotate_left
                  · intro w'
                    go_simp
                    first | (rw [c58b0]; done) | (rw [c58b0]; with_reducible rfl) | (have h_ := c58b0; simp only [beq_true, beq_false, Bool.not_not] at h_; rw [h_]; done) | (have h_ := c58b0; simp only [beq_true, beq_false, Bool.not_not] at h_; rw [h_]; with_reducible rfl) | (with_reducible rfl)
                  rotate_left
                  · simp only [Act.put, List.setIfInBounds_toArray, List.set_cons_zero, List.set_cons_succ, i64_w, i32_w]
                    rfl
                  refine pure_ (i := 7) (N := some 60) (v := ?_) (a' := ?_) #[true, true, true, true, true, true, true, true, false, false, false, false, false, false, false, false, false, false, false, false, false, false, false, false, false, false, false, false, false] rfl rfl (any_of HT_.out (by kernel_rfl)) (fun _ _ _ h => h) (Or.inl ⟨by rfl, ?_⟩) ?_ ?_
                  rotate_left
                  · intro w'
                    go_simp
                    with_reducible rfl
                  rotate_left
                  · simp only [Act.put, List.setIfInBounds_toArray, List.set_cons_zero, List.set_cons_succ, i64_w, i32_w]
                    rfl
                  refine pure_ (i := 8) (N := some 61) (v := ?_) (a' := ?_) #[true, true, true, true, true, true, true, true, true, false, false, false, false, false, false, false, false, false, false, false, false, false, false, false, false, false, false, false, false] rfl rfl (any_of HT_.out (by kernel_rfl)) (fun _ _ _ h => h) (Or.inl ⟨by rfl, ?_⟩) ?_ ?_
                  rotate_left
                  · intro w'
                    go_simp
                    with_reducible rfl
                  rotate_left
                  · simp only [Act.put, List.setIfInBounds_toArray, List.set_cons_zero, List.set_cons_succ, i64_w, i32_w]
                    rfl
                  refine pure_ (i := 11) (N := some 64) (v := ?_) (a' := ?_) #[true, true, true, true, true, true, true, true, true, false, false, true, false, false, false, false, false, false, false, false, false, false, false, false, false, false, false, false, false] rfl rfl (any_of HT_.out (by kernel_rfl)) (fun _ _ _ h => h) (Or.inl ⟨by rfl, ?_⟩) ?_ ?_
                  rotate_left
                  · intro w'
                    go_simp
                    with_reducible rfl
                  rotate_left
                  · simp only [Act.put, List.setIfInBounds_toArray, List.set_cons_zero, List.set_cons_succ, i64_w, i32_w]
                    rfl
                  refine take_ (i := 9) (N := some 62) (v := ?_) (a' := ?_) #[true, true, true, true, true, true, true, true, true, true, false, true, false, false, false, false, false, false, false, false, false, false, false, false, false, false, false, false, false] rfl rfl (take_ofW HT_.out HW_.out (by kernel_rfl)) (fun _ _ _ h => h) (Or.inl ⟨by rfl, ?_⟩) hHeld ?_ ?_
                  rotate_left
                  · rintro w' ⟨s0, s1, s2, s3, s4, s5, s6, s7, s8, s9, s10, s11, s12, s13, s14, s15, s16, s17, s18, s19, s20, s21, s22, s23, s24, s25, s26, s27, s28, s29⟩
                    go_simp
                    with_reducible rfl
                  rotate_left
                  · simp only [Act.put, List.setIfInBounds_toArray, List.set_cons_zero, List.set_cons_succ, i64_w, i32_w]
                    rfl
                  refine take_ (i := 10) (N := some 63) (v := ?_) (a' := ?_) #[true, true, true, true, true, true, true, true, true, true, true, true, false, false, false, false, false, false, false, false, false, false, false, false, false, false, false, false, false] rfl rfl (take_ofW HT_.out HW_.out (by kernel_rfl)) (fun _ _ _ h => h) (Or.inl ⟨by rfl, ?_⟩) hHeld ?_ ?_
                  rotate_left
                  · rintro w' ⟨s0, s1, s2, s3, s4, s5, s6, s7, s8, s9, s10, s11, s12, s13, s14, s15, s16, s17, s18, s19, s20, s21, s22, s23, s24, s25, s26, s27, s28, s29⟩
                    go_simp
                    with_reducible rfl
                  rotate_left
                  · simp only [Act.put, List.setIfInBounds_toArray, List.set_cons_zero, List.set_cons_succ, i64_w, i32_w]
                    rfl
                  refine one_ (i := 12) (N := some 65) #[true, true, true, true, true, true, true, true, true, true, true, true, true, false, false, false, false, false, false, false, false, false, false, false, false, false, false, false, false] rfl rfl (one_of HT_.out (by kernel_rfl)) (by decide) (fun K hK => ?_)
                  refine goes_ Tryd.func28 (by kernel_rfl) rfl #[.agg #[.int .u64 a0_0, .int .u64 a0_1, .int .u64 a0_2, .int .i64 a0_3, .int .i64 a0_4, .bool a0_5], .int .u64 a1] (by rfl) rfl rfl (by (try simp only [List.map_toArray, List.map_cons, List.map_nil]); first | done | rfl | (simp only [List.length_drop, List.length_take]; rfl)) ?_
                  with_reducible refine (curtilageref02_Bound.calls a0_0 a0_1 a0_2 a0_3 a0_4 a0_5 a1 t548 t549 t550 t551 t552 t553 _ A55.out).mono ?_
                  rintro e w107 ⟨rfl, hb⟩
                  refine ⟨_, rfl, ?_⟩
                  have n0_ := Aside0.mk (blk_below (g := gb472) (o := .cells #[.int .u64 a0_0, .int .u64 a0_1, .int .u64 a0_2, .int .i64 a0_3, .int .i64 a0_4, .bool a0_5] 24 (0, 0)) (by (with_reducible repeat (first | refine blk_drewN ?_ _ | refine blk_drew ?_ | refine blk_alloc ?_ _)); exact BK472.out) hb)
                  have n1_ := Aside0.mk (blk_below (g := gb481) (o := .cells #[.int .u64 t475, .int .u64 t476, .int .u64 t477, .int .i64 t478, .int .i64 t479, .bool t480] 24 (0, 0)) (by (with_reducible repeat (first | refine blk_drewN ?_ _ | refine blk_drew ?_ | refine blk_alloc ?_ _)); exact BK481.out) hb)
                  have n2_ := Aside0.mk (blk_below (g := gb488) (o := .cells #[.int .u64 t482, .int .u64 t483, .int .u64 t484, .int .i64 t485, .int .i64 t486, .bool t487] 24 (0, 0)) (by (with_reducible repeat (first | refine blk_drewN ?_ _ | refine blk_drew ?_ | refine blk_alloc ?_ _)); exact BK488.out) hb)
                  have n3_ := Aside0.mk (blk_below (g := gb495) (o := .cells #[.int .u64 t489, .int .u64 t490, .int .u64 t491, .int .i64 t492, .int .i64 t493, .bool t494] 24 (0, 0)) (by (with_reducible repeat (first | refine blk_drewN ?_ _ | refine blk_drew ?_ | refine blk_alloc ?_ _)); exact BK495.out) hb)
                  have n4_ := Aside0.mk (blk_below (g := gb520) (o := .cells #[.int .u64 t514, .int .u64 t515, .int .u64 t516, .int .i64 t517, .int .i64 t518, .bool t519] 24 (0, 0)) (by (with_reducible repeat (first | refine blk_drewN ?_ _ | refine blk_drew ?_ | refine blk_alloc ?_ _)); exact BK520.out) hb)
                  have n5_ := Aside0.mk (blk_below (g := gb527) (o := .cells #[.int .u64 t521, .int .u64 t522, .int .u64 t523, .int .i64 t524, .int .i64 t525, .bool t526] 24 (0, 0)) (by (with_reducible repeat (first | refine blk_drewN ?_ _ | refine blk_drew ?_ | refine blk_alloc ?_ _)); exact BK527.out) hb)
                  have n6_ := Aside0.mk (blk_below (g := gb534) (o := .cells #[.int .u64 t528, .int .u64 t529, .int .u64 t530, .int .i64 t531, .int .i64 t532, .bool t533] 24 (0, 0)) (by (with_reducible repeat (first | refine blk_drewN ?_ _ | refine blk_drew ?_ | refine blk_alloc ?_ _)); exact BK534.out) hb)
                  have n7_ := Aside0.mk (blk_below (g := gb541) (o := .cells #[.int .u64 t535, .int .u64 t536, .int .u64 t537, .int .i64 t538, .int .i64 t539, .bool t540] 24 (0, 0)) (by (with_reducible repeat (first | refine blk_drewN ?_ _ | refine blk_drew ?_ | refine blk_alloc ?_ _)); exact BK541.out) hb)
                  have n8_ := Aside0.mk (below_step (by repeat (first | (with_reducible first | exact HB.out | apply below_alloc | apply pw_below_drewN | apply below_drew1 | refine below_set ?_ GE472.out | refine below_set ?_ GE481.out | refine below_set ?_ GE488.out | refine below_set ?_ GE495.out | refine below_set ?_ GE520.out | refine below_set ?_ GE527.out | refine below_set ?_ GE534.out | refine below_set ?_ GE541.out) | exact HB.out)) hb)
                  clear BK472
                  clear BK481
                  clear BK488
                  clear BK495
                  clear BK520
                  clear BK527
                  clear BK534
                  clear BK541
                  clear HB
                  have BK472 := n0_
                  have BK481 := n1_
                  have BK488 := n2_
                  have BK495 := n3_
                  have BK520 := n4_
                  have BK527 := n5_
                  have BK534 := n6_
                  have BK541 := n7_
                  have HB := n8_
                  clear n0_ n1_ n2_ n3_ n4_ n5_ n6_ n7_ n8_
                  (try clear hb)
                  (try clear hb2)
                  (try clear hk)
                  (try clear hi)
                  refine hK.out _ _ ⟨(blk_cell BK520.out 0).trans rfl, (blk_cell BK520.out 1).trans rfl, (blk_cell BK520.out 2).trans rfl, (blk_cell BK520.out 3).trans rfl, (blk_cell BK520.out 4).trans rfl, (blk_cell BK520.out 5).trans rfl, (blk_cell BK472.out 0).trans rfl, (blk_cell BK472.out 1).trans rfl, (blk_cell BK472.out 2).trans rfl, (blk_cell BK472.out 3).trans rfl, (blk_cell BK472.out 4).trans rfl, (blk_cell BK472.out 5).trans rfl, (blk_cell BK527.out 0).trans rfl, (blk_cell BK527.out 1).trans rfl, (blk_cell BK527.out 2).trans rfl, (blk_cell BK527.out 3).trans rfl, (blk_cell BK527.out 4).trans rfl, (blk_cell BK527.out 5).trans rfl, (blk_cell BK534.out 0).trans rfl, (blk_cell BK534.out 1).trans rfl, (blk_cell BK534.out 2).trans rfl, (blk_cell BK534.out 3).trans rfl, (blk_cell BK534.out 4).trans rfl, (blk_cell BK534.out 5).trans rfl, (blk_cell BK541.out 0).trans rfl, (blk_cell BK541.out 1).trans rfl, (blk_cell BK541.out 2).trans rfl, (blk_cell BK541.out 3).trans rfl, (blk_cell BK541.out 4).trans rfl, (blk_cell BK541.out 5).trans rfl⟩ (fun hHeld => ?_)
                  clear hK K
                  refine norm_ (a' := ?_) ?_ ?_
                  rotate_left
                  · show Act.put _ (some 65) _ = _
                    simp only [Act.put, List.setIfInBounds_toArray, List.set_cons_zero, List.set_cons_succ, i64_w, i32_w]
                    rfl
                  refine pure_ (i := 13) (N := some 66) (v := ?_) (a' := ?_) #[true, true, true, true, true, true, true, true, true, true, true, true, true, true, false, false, false, false, false, false, false, false, false, false, false, false, false, false, false] rfl rfl (any_of HT_.out (by kernel_rfl)) (fun _ _ _ h => h) (Or.inl ⟨by rfl, ?_⟩) ?_ ?_
                  rotate_left
                  · intro w'
                    go_simp
                    first | (rw [c58b0]; done) | (rw [c58b0]; with_reducible rfl) | (have h_ := c58b0; simp only [beq_true, beq_false, Bool.not_not] at h_; rw [h_]; done) | (have h_ := c58b0; simp only [beq_true, beq_false, Bool.not_not] at h_; rw [h_]; with_reducible rfl) | (with_reducible rfl)
                  rotate_left
                  · simp only [Act.put, List.setIfInBounds_toArray, List.set_cons_zero, List.set_cons_succ, i64_w, i32_w]
                    rfl
                  refine pure_ (i := 14) (N := some 67) (v := ?_) (a' := ?_) #[true, true, true, true, true, true, true, true, true, true, true, true, true, true, true, false, false, false, false, false, false, false, false, false, false, false, false, false, false] rfl rfl (any_of HT_.out (by kernel_rfl)) (fun _ _ _ h => h) (Or.inl ⟨by rfl, ?_⟩) ?_ ?_
                  rotate_left
                  · intro w'
                    go_simp
                    with_reducible rfl
                  rotate_left
                  · simp only [Act.put, List.setIfInBounds_toArray, List.set_cons_zero, List.set_cons_succ, i64_w, i32_w]
                    rfl
                  refine pure_ (i := 15) (N := some 68) (v := ?_) (a' := ?_) #[true, true, true, true, true, true, true, true, true, true, true, true, true, true, true, true, false, false, false, false, false, false, false, false, false, false, false, false, false] rfl rfl (any_of HT_.out (by kernel_rfl)) (fun _ _ _ h => h) (Or.inl ⟨by rfl, ?_⟩) ?_ ?_
                  rotate_left
                  · intro w'
                    go_simp
                    with_reducible rfl
                  rotate_left
                  · simp only [Act.put, List.setIfInBounds_toArray, List.set_cons_zero, List.set_cons_succ, i64_w, i32_w]
                    rfl
                  refine pure_ (i := 18) (N := some 71) (v := ?_) (a' := ?_) #[true, true, true, true, true, true, true, true, true, true, true, true, true, true, true, true, false, false, true, false, false, false, false, false, false, false, false, false, false] rfl rfl (any_of HT_.out (by kernel_rfl)) (fun _ _ _ h => h) (Or.inl ⟨by rfl, ?_⟩) ?_ ?_
                  rotate_left
                  · intro w'
                    go_simp
                    with_reducible rfl
                  rotate_left
                  · simp only [Act.put, List.setIfInBounds_toArray, List.set_cons_zero, List.set_cons_succ, i64_w, i32_w]
                    rfl
                  refine take_ (i := 16) (N := some 69) (v := ?_) (a' := ?_) #[true, true, true, true, true, true, true, true, true, true, true, true, true, true, true, true, true, false, true, false, false, false, false, false, false, false, false, false, false] rfl rfl (take_ofW HT_.out HW_.out (by kernel_rfl)) (fun _ _ _ h => h) (Or.inl ⟨by rfl, ?_⟩) hHeld ?_ ?_
                  rotate_left
                  · rintro w' ⟨s0, s1, s2, s3, s4, s5, s6, s7, s8, s9, s10, s11, s12, s13, s14, s15, s16, s17, s18, s19, s20, s21, s22, s23, s24, s25, s26, s27, s28, s29⟩
                    go_simp
                    with_reducible rfl
                  rotate_left
                  · simp only [Act.put, List.setIfInBounds_toArray, List.set_cons_zero, List.set_cons_succ, i64_w, i32_w]
                    rfl
                  refine take_ (i := 17) (N := some 70) (v := ?_) (a' := ?_) #[true, true, true, true, true, true, true, true, true, true, true, true, true, true, true, true, true, true, true, false, false, false, false, false, false, false, false, false, false] rfl rfl (take_ofW HT_.out HW_.out (by kernel_rfl)) (fun _ _ _ h => h) (Or.inl ⟨by rfl, ?_⟩) hHeld ?_ ?_
                  rotate_left
                  · rintro w' ⟨s0, s1, s2, s3, s4, s5, s6, s7, s8, s9, s10, s11, s12, s13, s14, s15, s16, s17, s18, s19, s20, s21, s22, s23, s24, s25, s26, s27, s28, s29⟩
                    go_simp
                    with_reducible rfl
                  rotate_left
                  · simp only [Act.put, List.setIfInBounds_toArray, List.set_cons_zero, List.set_cons_succ, i64_w, i32_w]
                    rfl
                  refine one_ (i := 19) (N := some 72) #[true, true, true, true, true, true, true, true, true, true, true, true, true, true, true, true, true, true, true, true, false, false, false, false, false, false, false, false, false] rfl rfl (one_of HT_.out (by kernel_rfl)) (by decide) (fun K hK => ?_)
                  refine goes_ Tryd.func29 (by kernel_rfl) rfl #[.agg #[.int .u64 a0_0, .int .u64 a0_1, .int .u64 a0_2, .int .i64 a0_3, .int .i64 a0_4, .bool a0_5], .int .i64 a2] (by rfl) rfl rfl (by (try simp only [List.map_toArray, List.map_cons, List.map_nil]); first | done | rfl | (simp only [List.length_drop, List.length_take]; rfl)) ?_
                  with_reducible refine (curtilageref02_And.calls kj8 a0_0 a0_1 a0_2 a0_3 a0_4 a0_5 a2 t554 t555 t556 t557 t558 t559 _ A57.out).mono ?_
                  rintro e w108 ⟨rfl, hb⟩
                  refine ⟨_, rfl, ?_⟩
                  have n0_ := Aside0.mk (blk_below (g := gb472) (o := .cells #[.int .u64 a0_0, .int .u64 a0_1, .int .u64 a0_2, .int .i64 a0_3, .int .i64 a0_4, .bool a0_5] 24 (0, 0)) (by (with_reducible repeat (first | refine blk_drewN ?_ _ | refine blk_drew ?_ | refine blk_alloc ?_ _)); exact BK472.out) hb)
                  have n1_ := Aside0.mk (blk_below (g := gb481) (o := .cells #[.int .u64 t475, .int .u64 t476, .int .u64 t477, .int .i64 t478, .int .i64 t479, .bool t480] 24 (0, 0)) (by (with_reducible repeat (first | refine blk_drewN ?_ _ | refine blk_drew ?_ | refine blk_alloc ?_ _)); exact BK481.out) hb)
                  have n2_ := Aside0.mk (blk_below (g := gb488) (o := .cells #[.int .u64 t482, .int .u64 t483, .int .u64 t484, .int .i64 t485, .int .i64 t486, .bool t487] 24 (0, 0)) (by (with_reducible repeat (first | refine blk_drewN ?_ _ | refine blk_drew ?_ | refine blk_alloc ?_ _)); exact BK488.out) hb)
                  have n3_ := Aside0.mk (blk_below (g := gb495) (o := .cells #[.int .u64 t489, .int .u64 t490, .int .u64 t491, .int .i64 t492, .int .i64 t493, .bool t494] 24 (0, 0)) (by (with_reducible repeat (first | refine blk_drewN ?_ _ | refine blk_drew ?_ | refine blk_alloc ?_ _)); exact BK495.out) hb)
                  have n4_ := Aside0.mk (blk_below (g := gb520) (o := .cells #[.int .u64 t514, .int .u64 t515, .int .u64 t516, .int .i64 t517, .int .i64 t518, .bool t519] 24 (0, 0)) (by (with_reducible repeat (first | refine blk_drewN ?_ _ | refine blk_drew ?_ | refine blk_alloc ?_ _)); exact BK520.out) hb)
                  have n5_ := Aside0.mk (blk_below (g := gb527) (o := .cells #[.int .u64 t521, .int .u64 t522, .int .u64 t523, .int .i64 t524, .int .i64 t525, .bool t526] 24 (0, 0)) (by (with_reducible repeat (first | refine blk_drewN ?_ _ | refine blk_drew ?_ | refine blk_alloc ?_ _)); exact BK527.out) hb)
                  have n6_ := Aside0.mk (blk_below (g := gb534) (o := .cells #[.int .u64 t528, .int .u64 t529, .int .u64 t530, .int .i64 t531, .int .i64 t532, .bool t533] 24 (0, 0)) (by (with_reducible repeat (first | refine blk_drewN ?_ _ | refine blk_drew ?_ | refine blk_alloc ?_ _)); exact BK534.out) hb)
                  have n7_ := Aside0.mk (blk_below (g := gb541) (o := .cells #[.int .u64 t535, .int .u64 t536, .int .u64 t537, .int .i64 t538, .int .i64 t539, .bool t540] 24 (0, 0)) (by (with_reducible repeat (first | refine blk_drewN ?_ _ | refine blk_drew ?_ | refine blk_alloc ?_ _)); exact BK541.out) hb)
                  have n8_ := Aside0.mk (below_step (by repeat (first | (with_reducible first | exact HB.out | apply below_alloc | apply pw_below_drewN | apply below_drew1 | refine below_set ?_ GE472.out | refine below_set ?_ GE481.out | refine below_set ?_ GE488.out | refine below_set ?_ GE495.out | refine below_set ?_ GE520.out | refine below_set ?_ GE527.out | refine below_set ?_ GE534.out | refine below_set ?_ GE541.out) | exact HB.out)) hb)
                  clear BK472
                  clear BK481
                  clear BK488
                  clear BK495
                  clear BK520
                  clear BK527
                  clear BK534
                  clear BK541
                  clear HB
                  have BK472 := n0_
                  have BK481 := n1_
                  have BK488 := n2_
                  have BK495 := n3_
                  have BK520 := n4_
                  have BK527 := n5_
                  have BK534 := n6_
                  have BK541 := n7_
                  have HB := n8_
                  clear n0_ n1_ n2_ n3_ n4_ n5_ n6_ n7_ n8_
                  (try clear hb)
                  (try clear hb2)
                  (try clear hk)
                  (try clear hi)
                  refine hK.out _ _ ⟨(blk_cell BK520.out 0).trans rfl, (blk_cell BK520.out 1).trans rfl, (blk_cell BK520.out 2).trans rfl, (blk_cell BK520.out 3).trans rfl, (blk_cell BK520.out 4).trans rfl, (blk_cell BK520.out 5).trans rfl, (blk_cell BK472.out 0).trans rfl, (blk_cell BK472.out 1).trans rfl, (blk_cell BK472.out 2).trans rfl, (blk_cell BK472.out 3).trans rfl, (blk_cell BK472.out 4).trans rfl, (blk_cell BK472.out 5).trans rfl, (blk_cell BK527.out 0).trans rfl, (blk_cell BK527.out 1).trans rfl, (blk_cell BK527.out 2).trans rfl, (blk_cell BK527.out 3).trans rfl, (blk_cell BK527.out 4).trans rfl, (blk_cell BK527.out 5).trans rfl, (blk_cell BK534.out 0).trans rfl, (blk_cell BK534.out 1).trans rfl, (blk_cell BK534.out 2).trans rfl, (blk_cell BK534.out 3).trans rfl, (blk_cell BK534.out 4).trans rfl, (blk_cell BK534.out 5).trans rfl, (blk_cell BK541.out 0).trans rfl, (blk_cell BK541.out 1).trans rfl, (blk_cell BK541.out 2).trans rfl, (blk_cell BK541.out 3).trans rfl, (blk_cell BK541.out 4).trans rfl, (blk_cell BK541.out 5).trans rfl⟩ (fun hHeld => ?_)
                  clear hK K
                  refine norm_ (a' := ?_) ?_ ?_
                  rotate_left
                  · show Act.put _ (some 72) _ = _
                    simp only [Act.put, List.setIfInBounds_toArray, List.set_cons_zero, List.set_cons_succ, i64_w, i32_w]
                    rfl
                  refine pure_ (i := 20) (N := some 73) (v := ?_) (a' := ?_) #[true, true, true, true, true, true, true, true, true, true, true, true, true, true, true, true, true, true, true, true, true, false, false, false, false, false, false, false, false] rfl rfl (any_of HT_.out (by kernel_rfl)) (fun _ _ _ h => h) (Or.inl ⟨by rfl, ?_⟩) ?_ ?_
                  rotate_left
                  · intro w'
                    go_simp
                    first | (rw [c58b0]; done) | (rw [c58b0]; with_reducible rfl) | (have h_ := c58b0; simp only [beq_true, beq_false, Bool.not_not] at h_; rw [h_]; done) | (have h_ := c58b0; simp only [beq_true, beq_false, Bool.not_not] at h_; rw [h_]; with_reducible rfl) | (with_reducible rfl)
                  rotate_left
                  · simp only [Act.put, List.setIfInBounds_toArray, List.set_cons_zero, List.set_cons_succ, i64_w, i32_w]
                    rfl
                  refine pure_ (i := 21) (N := some 74) (v := ?_) (a' := ?_) #[true, true, true, true, true, true, true, true, true, true, true, true, true, true, true, true, true, true, true, true, true, true, false, false, false, false, false, false, false] rfl rfl (any_of HT_.out (by kernel_rfl)) (fun _ _ _ h => h) (Or.inl ⟨by rfl, ?_⟩) ?_ ?_
                  rotate_left
                  · intro w'
                    go_simp
                    with_reducible rfl
                  rotate_left
                  · simp only [Act.put, List.setIfInBounds_toArray, List.set_cons_zero, List.set_cons_succ, i64_w, i32_w]
                    rfl
                  refine pure_ (i := 22) (N := some 75) (v := ?_) (a' := ?_) #[true, true, true, true, true, true, true, true, true, true, true, true, true, true, true, true, true, true, true, true, true, true, true, false, false, false, false, false, false] rfl rfl (any_of HT_.out (by kernel_rfl)) (fun _ _ _ h => h) (Or.inl ⟨by rfl, ?_⟩) ?_ ?_
                  rotate_left
                  · intro w'
                    go_simp
                    with_reducible rfl
                  rotate_left
                  · simp only [Act.put, List.setIfInBounds_toArray, List.set_cons_zero, List.set_cons_succ, i64_w, i32_w]
                    rfl
                  refine take_ (i := 23) (N := some 76) (v := ?_) (a' := ?_) #[true, true, true, true, true, true, true, true, true, true, true, true, true, true, true, true, true, true, true, true, true, true, true, true, false, false, false, false, false] rfl rfl (take_ofW HT_.out HW_.out (by kernel_rfl)) (fun _ _ _ h => h) (Or.inl ⟨by rfl, ?_⟩) hHeld ?_ ?_
                  rotate_left
                  · rintro w' ⟨s0, s1, s2, s3, s4, s5, s6, s7, s8, s9, s10, s11, s12, s13, s14, s15, s16, s17, s18, s19, s20, s21, s22, s23, s24, s25, s26, s27, s28, s29⟩
                    go_simp
                    with_reducible rfl
                  rotate_left
                  · simp only [Act.put, List.setIfInBounds_toArray, List.set_cons_zero, List.set_cons_succ, i64_w, i32_w]
                    rfl
                  refine take_ (i := 24) (N := some 77) (v := ?_) (a' := ?_) #[true, true, true, true, true, true, true, true, true, true, true, true, true, true, true, true, true, true, true, true, true, true, true, true, true, false, false, false, false] rfl rfl (take_ofW HT_.out HW_.out (by kernel_rfl)) (fun _ _ _ h => h) (Or.inl ⟨by rfl, ?_⟩) hHeld ?_ ?_
                  rotate_left
                  · rintro w' ⟨s0, s1, s2, s3, s4, s5, s6, s7, s8, s9, s10, s11, s12, s13, s14, s15, s16, s17, s18, s19, s20, s21, s22, s23, s24, s25, s26, s27, s28, s29⟩
                    go_simp
                    with_reducible rfl
                  rotate_left
                  · simp only [Act.put, List.setIfInBounds_toArray, List.set_cons_zero, List.set_cons_succ, i64_w, i32_w]
                    rfl
                  refine one_ (i := 25) (N := some 78) #[true, true, true, true, true, true, true, true, true, true, true, true, true, true, true, true, true, true, true, true, true, true, true, true, true, true, false, false, false] rfl rfl (one_of HT_.out (by kernel_rfl)) (by decide) (fun K hK => ?_)
                  refine goes_ Tryd.func30 (by kernel_rfl) rfl #[.agg #[.int .u64 a0_0, .int .u64 a0_1, .int .u64 a0_2, .int .i64 a0_3, .int .i64 a0_4, .bool a0_5]] (by rfl) rfl rfl (by (try simp only [List.map_toArray, List.map_cons, List.map_nil]); first | done | rfl | (simp only [List.length_drop, List.length_take]; rfl)) ?_
                  with_reducible refine (curtilageref02_Clear.calls a0_0 a0_1 a0_2 a0_3 a0_4 a0_5 t560 t561 t562 t563 t564 t565 _ A59.out).mono ?_
                  rintro e w109 ⟨rfl, hb⟩
                  refine ⟨_, rfl, ?_⟩
                  have n0_ := Aside0.mk (blk_below (g := gb472) (o := .cells #[.int .u64 a0_0, .int .u64 a0_1, .int .u64 a0_2, .int .i64 a0_3, .int .i64 a0_4, .bool a0_5] 24 (0, 0)) (by (with_reducible repeat (first | refine blk_drewN ?_ _ | refine blk_drew ?_ | refine blk_alloc ?_ _)); exact BK472.out) hb)
                  have n1_ := Aside0.mk (blk_below (g := gb481) (o := .cells #[.int .u64 t475, .int .u64 t476, .int .u64 t477, .int .i64 t478, .int .i64 t479, .bool t480] 24 (0, 0)) (by (with_reducible repeat (first | refine blk_drewN ?_ _ | refine blk_drew ?_ | refine blk_alloc ?_ _)); exact BK481.out) hb)
                  have n2_ := Aside0.mk (blk_below (g := gb488) (o := .cells #[.int .u64 t482, .int .u64 t483, .int .u64 t484, .int .i64 t485, .int .i64 t486, .bool t487] 24 (0, 0)) (by (with_reducible repeat (first | refine blk_drewN ?_ _ | refine blk_drew ?_ | refine blk_alloc ?_ _)); exact BK488.out) hb)
                  have n3_ := Aside0.mk (blk_below (g := gb495) (o := .cells #[.int .u64 t489, .int .u64 t490, .int .u64 t491, .int .i64 t492, .int .i64 t493, .bool t494] 24 (0, 0)) (by (with_reducible repeat (first | refine blk_drewN ?_ _ | refine blk_drew ?_ | refine blk_alloc ?_ _)); exact BK495.out) hb)
                  have n4_ := Aside0.mk (blk_below (g := gb520) (o := .cells #[.int .u64 t514, .int .u64 t515, .int .u64 t516, .int .i64 t517, .int .i64 t518, .bool t519] 24 (0, 0)) (by (with_reducible repeat (first | refine blk_drewN ?_ _ | refine blk_drew ?_ | refine blk_alloc ?_ _)); exact BK520.out) hb)
                  have n5_ := Aside0.mk (blk_below (g := gb527) (o := .cells #[.int .u64 t521, .int .u64 t522, .int .u64 t523, .int .i64 t524, .int .i64 t525, .bool t526] 24 (0, 0)) (by (with_reducible repeat (first | refine blk_drewN ?_ _ | refine blk_drew ?_ | refine blk_alloc ?_ _)); exact BK527.out) hb)
                  have n6_ := Aside0.mk (blk_below (g := gb534) (o := .cells #[.int .u64 t528, .int .u64 t529, .int .u64 t530, .int .i64 t531, .int .i64 t532, .bool t533] 24 (0, 0)) (by (with_reducible repeat (first | refine blk_drewN ?_ _ | refine blk_drew ?_ | refine blk_alloc ?_ _)); exact BK534.out) hb)
                  have n7_ := Aside0.mk (blk_below (g := gb541) (o := .cells #[.int .u64 t535, .int .u64 t536, .int .u64 t537, .int .i64 t538, .int .i64 t539, .bool t540] 24 (0, 0)) (by (with_reducible repeat (first | refine blk_drewN ?_ _ | refine blk_drew ?_ | refine blk_alloc ?_ _)); exact BK541.out) hb)
                  have n8_ := Aside0.mk (below_step (by repeat (first | (with_reducible first | exact HB.out | apply below_alloc | apply pw_below_drewN | apply below_drew1 | refine below_set ?_ GE472.out | refine below_set ?_ GE481.out | refine below_set ?_ GE488.out | refine below_set ?_ GE495.out | refine below_set ?_ GE520.out | refine below_set ?_ GE527.out | refine below_set ?_ GE534.out | refine below_set ?_ GE541.out) | exact HB.out)) hb)
                  clear BK472
                  clear BK481
                  clear BK488
                  clear BK495
                  clear BK520
                  clear BK527
                  clear BK534
                  clear BK541
                  clear HB
                  have BK472 := n0_
                  have BK481 := n1_
                  have BK488 := n2_
                  have BK495 := n3_
                  have BK520 := n4_
                  have BK527 := n5_
                  have BK534 := n6_
                  have BK541 := n7_
                  have HB := n8_
                  clear n0_ n1_ n2_ n3_ n4_ n5_ n6_ n7_ n8_
                  (try clear hb)
                  (try clear hb2)
                  (try clear hk)
                  (try clear hi)
                  refine hK.out _ _ ⟨(blk_cell BK520.out 0).trans rfl, (blk_cell BK520.out 1).trans rfl, (blk_cell BK520.out 2).trans rfl, (blk_cell BK520.out 3).trans rfl, (blk_cell BK520.out 4).trans rfl, (blk_cell BK520.out 5).trans rfl, (blk_cell BK472.out 0).trans rfl, (blk_cell BK472.out 1).trans rfl, (blk_cell BK472.out 2).trans rfl, (blk_cell BK472.out 3).trans rfl, (blk_cell BK472.out 4).trans rfl, (blk_cell BK472.out 5).trans rfl, (blk_cell BK527.out 0).trans rfl, (blk_cell BK527.out 1).trans rfl, (blk_cell BK527.out 2).trans rfl, (blk_cell BK527.out 3).trans rfl, (blk_cell BK527.out 4).trans rfl, (blk_cell BK527.out 5).trans rfl, (blk_cell BK534.out 0).trans rfl, (blk_cell BK534.out 1).trans rfl, (blk_cell BK534.out 2).trans rfl, (blk_cell BK534.out 3).trans rfl, (blk_cell BK534.out 4).trans rfl, (blk_cell BK534.out 5).trans rfl, (blk_cell BK541.out 0).trans rfl, (blk_cell BK541.out 1).trans rfl, (blk_cell BK541.out 2).trans rfl, (blk_cell BK541.out 3).trans rfl, (blk_cell BK541.out 4).trans rfl, (blk_cell BK541.out 5).trans rfl⟩ (fun hHeld => ?_)
                  clear hK K
                  refine norm_ (a' := ?_) ?_ ?_
                  rotate_left
                  · show Act.put _ (some 78) _ = _
                    simp only [Act.put, List.setIfInBounds_toArray, List.set_cons_zero, List.set_cons_succ, i64_w, i32_w]
                    rfl
                  refine pure_ (i := 26) (N := some 79) (v := ?_) (a' := ?_) #[true, true, true, true, true, true, true, true, true, true, true, true, true, true, true, true, true, true, true, true, true, true, true, true, true, true, true, false, false] rfl rfl (any_of HT_.out (by kernel_rfl)) (fun _ _ _ h => h) (Or.inl ⟨by rfl, ?_⟩) ?_ ?_
                  rotate_left
                  · intro w'
                    go_simp
                    first | (rw [c58b0]; done) | (rw [c58b0]; with_reducible rfl) | (have h_ := c58b0; simp only [beq_true, beq_false, Bool.not_not] at h_; rw [h_]; done) | (have h_ := c58b0; simp only [beq_true, beq_false, Bool.not_not] at h_; rw [h_]; with_reducible rfl) | (with_reducible rfl)
                  rotate_left
                  · simp only [Act.put, List.setIfInBounds_toArray, List.set_cons_zero, List.set_cons_succ, i64_w, i32_w]
                    rfl
                  refine pure_ (i := 27) (N := some 80) (v := ?_) (a' := ?_) #[true, true, true, true, true, true, true, true, true, true, true, true, true, true, true, true, true, true, true, true, true, true, true, true, true, true, true, true, false] rfl rfl (any_of HT_.out (by kernel_rfl)) (fun _ _ _ h => h) (Or.inl ⟨by rfl, ?_⟩) ?_ ?_
                  rotate_left
                  · intro w'
                    go_simp
                    with_reducible rfl
                  rotate_left
                  · simp only [Act.put, List.setIfInBounds_toArray, List.set_cons_zero, List.set_cons_succ, i64_w, i32_w]
                    rfl
                  refine pure_ (i := 28) (N := some 6) (v := ?_) (a' := ?_) #[true, true, true, true, true, true, true, true, true, true, true, true, true, true, true, true, true, true, true, true, true, true, true, true, true, true, true, true, true] rfl rfl (any_of HT_.out (by kernel_rfl)) (fun _ _ _ h => h) (Or.inl ⟨by rfl, ?_⟩) ?_ ?_
                  rotate_left
                  · intro w'
                    go_simp
                    with_reducible rfl
                  rotate_left
                  · simp only [Act.put, List.setIfInBounds_toArray, List.set_cons_zero, List.set_cons_succ, i64_w, i32_w]
                    rfl
                  refine done_ (done_of HT_.out (by kernel_rfl)) ?_
                  try go_wp2
                  go_ret
                  exact ⟨by first | rfl | (simp [errW_none, errW_some] <;> rfl) | (simp [*, errW_none, errW_some] <;> rfl), by repeat (first | (with_reducible first | exact HB.out | apply below_alloc | apply pw_below_drewN | apply below_drew1 | refine below_set ?_ GE472.out | refine below_set ?_ GE481.out | refine below_set ?_ GE488.out | refine below_set ?_ GE495.out | refine below_set ?_ GE520.out | refine below_set ?_ GE527.out | refine below_set ?_ GE534.out | refine below_set ?_ GE541.out) | exact HB.out)⟩
                · rw [if_neg c58] at H
                  have c58b0 : (t528 == t554 && (t529 == t555 && (t530 == t556 && (t531 == t557 && (t532 == t558 && (t533 == t559)))))) = false := by simpa using c58
                  (try (have c58b1 : decide (t528 = t554 && (t529 == t555 && (t530 == t556 && (t531 == t557 && (t532 == t558 && (t533 == t559)))))) = false := by simpa using c58))
                  (try (have c58b2 : (t528 == t554 && (t529 == t555 && (t530 == t556 && (t531 == t557 && (t532 == t558 && (t533 == t559)))))) = false := by simpa using c58))
                  (try (have c58b3 : ¬ (t528 = t554 && (t529 == t555 && (t530 == t556 && (t531 == t557 && (t532 == t558 && (t533 == t559)))))) := by simpa using c58))
                  clear c58
                  exact absurd ((Option.some.inj H).trans HT.out) (by decide)
              · rw [if_neg c56] at H
                have c56b0 : (t521 == t548 && (t522 == t549 && (t523 == t550 && (t524 == t551 && (t525 == t552 && (t526 == t553)))))) = false := by simpa using c56
                (try (have c56b1 : decide (t521 = t548 && (t522 == t549 && (t523 == t550 && (t524 == t551 && (t525 == t552 && (t526 == t553)))))) = false := by simpa using c56))
                (try (have c56b2 : (t521 == t548 && (t522 == t549 && (t523 == t550 && (t524 == t551 && (t525 == t552 && (t526 == t553)))))) = false := by simpa using c56))
                (try (have c56b3 : ¬ (t521 = t548 && (t522 == t549 && (t523 == t550 && (t524 == t551 && (t525 == t552 && (t526 == t553)))))) := by simpa using c56))
                clear c56
                exact absurd ((Option.some.inj H).trans HT.out) (by decide)
            · rw [if_neg c54] at H
              have c54b0 : (t514 == t542 && (t515 == t543 && (t516 == t544 && (t517 == t545 && (t518 == t546 && (t519 == t547)))))) = false := by simpa using c54
              (try (have c54b1 : decide (t514 = t542 && (t515 == t543 && (t516 == t544 && (t517 == t545 && (t518 == t546 && (t519 == t547)))))) = false := by simpa using c54))
              (try (have c54b2 : (t514 == t542 && (t515 == t543 && (t516 == t544 && (t517 == t545 && (t518 == t546 && (t519 == t547)))))) = false := by simpa using c54))
              (try (have c54b3 : ¬ (t514 = t542 && (t515 == t543 && (t516 == t544 && (t517 == t545 && (t518 == t546 && (t519 == t547)))))) := by simpa using c54))
              clear c54
              exact absurd ((Option.some.inj H).trans HT.out) (by decide)
          · replace c52 := Bool.eq_false_iff.mpr c52
            subst c52
            have H1 : (some false) = some r := by rw [if_neg (show ¬ (false = true) by decide)] at H; exact H
            clear H
            have H := H1
            clear H1
            exact absurd ((Option.some.inj H).trans HT.out) (by decide)
        · replace c47 := Bool.eq_false_iff.mpr c47
          subst c47
          have H1 : (some t473) = some r := by rw [if_neg (show ¬ (false = true) by decide)] at H; exact H
          clear H
          have H := H1
          clear H1
          obtain rfl := Option.some.inj H
          go_wp2
          go_ret
          exact ⟨by first | rfl | (simp [errW_none, errW_some] <;> rfl) | (simp [*, errW_none, errW_some] <;> rfl), by repeat (first | (with_reducible first | exact HB.out | apply below_alloc | apply pw_below_drewN | apply below_drew1 | refine below_set ?_ GE472.out | refine below_set ?_ GE481.out | refine below_set ?_ GE488.out | refine below_set ?_ GE495.out) | exact HB.out)⟩

end Go.Proofs.YtafpkpalkaphkaaDoor.P
