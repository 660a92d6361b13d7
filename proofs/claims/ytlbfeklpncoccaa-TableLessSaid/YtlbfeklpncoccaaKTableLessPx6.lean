/- What functions of the program, and of its laws, give, each proved of its code by a walk; no condition. -/
import Derived.Test.YtlbfeklpncoccaaKTableLessPx0
import Derived.Test.YtlbfeklpncoccaaKTableLessPx2
import Derived.Test.YtlbfeklpncoccaaKTableLessPx3
import Derived.Test.YtlbfeklpncoccaaKTableLessPx5
import Derived.Test.YtlbfeklpncoccaaKTableLessUsh
import Derived.Test.YtlbfeklpncoccaaKTableLessUs4
import Derived.Test.YtlbfeklpncoccaaKTableLessSq
namespace Go.Proofs.Ytlbfeklpncoccaa.P
open Go.RowKit Go.Proofs.YtlbfeklpncoccaaW.PrintWords Go.Proofs.YtlbfeklpncoccaaW.PrintLast Go.Proofs.YtlbfeklpncoccaaW.PrintMore
attribute [local go_sem] max2_int min2_int max_two min_two max_three min_three max_four min_four   -- for this text's walks alone
set_option linter.unusedVariables false
set_option linter.unusedSimpArgs false

def table_Entry.f (k : Nat) (a0_0 : ByteArray) (l0_1 : List ByteArray) (l0_2 : List (S67)) (l0_3 : List (S35)) (l0_4 : List (S72)) (l0_5 : List Int) (l0_6 : List Int) (a1 : Int) (a2 : Int) (a3 : Int) : Option (Int × Int × Int × Int × Int × Bool × Int × Int × Int × Int × Int × Bool) := if 0 ≤ a2 then (if a2 < (l0_3.length : Int) then ((celf_At.f a0_0 l0_1 l0_2 l0_3 l0_4 l0_5 l0_6 ((rd_T35 l0_3 a2).f2) ((rd_T35 l0_3 a2).f3)).bind fun t273 => ((image_Part.f k a0_0 l0_1 l0_2 l0_3 l0_4 l0_5 l0_6 a1 t273).bind fun bt274 => ((cap_Move.f bt274.1 bt274.2.1 bt274.2.2.1 (Go.bits .or .i64 bt274.2.2.2.1 128) bt274.2.2.2.2.1 bt274.2.2.2.2.2 (IntKind.u64.wrap (a1 + ((rd_T35 l0_3 a2).f2)))).bind fun bt280 => ((table_key.f a3).bind fun bt286 => ((cap_Seal.f bt280.1 bt280.2.1 bt280.2.2.1 bt280.2.2.2.1 bt280.2.2.2.2.1 bt280.2.2.2.2.2 bt286.1 bt286.2.1 bt286.2.2.1 bt286.2.2.2.1 bt286.2.2.2.2.1 bt286.2.2.2.2.2).bind fun bt292 => ((image_Own.f k a0_0 l0_1 l0_2 l0_3 l0_4 l0_5 l0_6 a1).bind fun bt298 => ((table_key.f a3).bind fun bt304 => ((cap_Seal.f bt298.1 bt298.2.1 bt298.2.2.1 bt298.2.2.2.1 bt298.2.2.2.2.1 bt298.2.2.2.2.2 bt304.1 bt304.2.1 bt304.2.2.1 bt304.2.2.2.1 bt304.2.2.2.2.1 bt304.2.2.2.2.2).bind fun bt310 => (some (bt292.1, bt292.2.1, bt292.2.2.1, bt292.2.2.2.1, bt292.2.2.2.2.1, bt292.2.2.2.2.2, bt310.1, bt310.2.1, bt310.2.2.1, bt310.2.2.2.1, bt310.2.2.2.2.1, bt310.2.2.2.2.2)))))))))) else (none)) else (none)
theorem table_Entry.mono : ∀ a0 a1 a2 a3 a4 a5 a6 a7 a8 a9 k, LeO (table_Entry.f k a0 a1 a2 a3 a4 a5 a6 a7 a8 a9) (table_Entry.f (k + 1) a0 a1 a2 a3 a4 a5 a6 a7 a8 a9) := by
  intro a0 a1 a2 a3 a4 a5 a6 a7 a8 a9 k
  unfold table_Entry.f
  repeat' first
      | (with_reducible exact image_Own.mono _ _ _ _ _ _ _ _ _)
      | (with_reducible exact image_Part.mono _ _ _ _ _ _ _ _ _ _)
      | (with_reducible exact LeO.refl _)
      | (with_reducible exact LeO.none _)
      | (with_reducible refine LeO.ite ?_ ?_)
      | (with_reducible refine LeO.bind ?_ (fun _ => ?_))
      | exact image_Own.mono _ _ _ _ _ _ _ _ _
      | exact image_Part.mono _ _ _ _ _ _ _ _ _ _
      | exact LeO.none _
      | refine LeO.ite ?_ ?_
      | refine LeO.bind ?_ (fun _ => ?_)
def table_Entry.T2 : Bool × List (List Nat × List Nat) := (true, [([], []), ([], []), ([], []), ([], []), ([3], [3]), ([], []), ([5], [5]), ([2, 4, 6], [2, 4, 6]), ([0, 1, 7, 7], [0, 1, 7]), ([8, 8, 0, 1, 2, 3, 4, 5, 6, 7, 8], [8])])
def table_Entry.B2 : List Nat := [0, 0, 0, 0, 8, 0, 32, 124, 255, 511]
theorem table_Entry.tab2 : rtab .any (opsOf Try.f10 2) = table_Entry.T2 := by kernel_rfl
theorem table_Entry.bits2 : waitsOk table_Entry.T2.2 table_Entry.B2 = true := by kernel_rfl
def table_Entry.T5 : Bool × List (List Nat × List Nat) := (true, [([], []), ([], []), ([1], [1]), ([0, 2, 2], [0, 2]), ([], []), ([], []), ([4, 5, 3], [4, 5]), ([], []), ([7, 6], [7]), ([6, 8, 8], [6, 8]), ([3, 9, 0, 1, 2, 3], [3]), ([9, 10, 0, 1, 2, 3, 4, 5, 6, 7, 8, 9, 10], [9])])
def table_Entry.B5 : List Nat := [0, 0, 2, 7, 0, 0, 63, 0, 255, 511, 1023, 2047]
theorem table_Entry.tab5 : rtab .any (opsOf Try.f10 5) = table_Entry.T5 := by kernel_rfl
theorem table_Entry.bits5 : waitsOk table_Entry.T5.2 table_Entry.B5 = true := by kernel_rfl
theorem gen_eq {P : Program} {c : Code} {K : Exit → Act → World → Prop} {a : Act} {W : World} (k : ∀ wq, wq = W → c.wp P K a wq) : c.wp P K a W := k W rfl
set_option maxHeartbeats 8000000 in
set_option maxRecDepth 100000 in
theorem table_Entry.calls (k : Nat) (a0_0 : ByteArray) (A0_1 : Option Addr) (c0_1 : Nat) (l0_1 : List ByteArray) (A0_2 : Option Addr) (c0_2 : Nat) (l0_2 : List (S67)) (A0_3 : Option Addr) (c0_3 : Nat) (l0_3 : List (S35)) (A0_4 : Option Addr) (c0_4 : Nat) (l0_4 : List (S72)) (A0_5 : Option Addr) (c0_5 : Nat) (l0_5 : List Int) (A0_6 : Option Addr) (c0_6 : Nat) (l0_6 : List Int) (a1 : Int) (a2 : Int) (a3 : Int) (r1 : Int) (r2 : Int) (r3 : Int) (r4 : Int) (r5 : Int) (r6 : Bool) (r7 : Int) (r8 : Int) (r9 : Int) (r10 : Int) (r11 : Int) (r12 : Bool) (w : World) (hr0_1 : Kd.C Kd.string w A0_1 l0_1.length l0_1) (hc0_1 : l0_1.length ≤ c0_1) (hr0_2 : Kd.C k67 w A0_2 l0_2.length l0_2) (hc0_2 : l0_2.length ≤ c0_2) (hr0_3 : Kd.C k35 w A0_3 l0_3.length l0_3) (hc0_3 : l0_3.length ≤ c0_3) (hr0_4 : Kd.C k72 w A0_4 l0_4.length l0_4) (hc0_4 : l0_4.length ≤ c0_4) (hr0_5 : Kd.C (Kd.int .i64) w A0_5 l0_5.length l0_5) (hc0_5 : l0_5.length ≤ c0_5) (hr0_6 : Kd.C (Kd.int .i64) w A0_6 l0_6.length l0_6) (hc0_6 : l0_6.length ≤ c0_6) (h : table_Entry.f k a0_0 l0_1 l0_2 l0_3 l0_4 l0_5 l0_6 a1 a2 a3 = some (r1, r2, r3, r4, r5, r6, r7, r8, r9, r10, r11, r12)) :
  Calls Try.prog 10 #[.agg #[.string a0_0, .slice A0_1 l0_1.length c0_1, .slice A0_2 l0_2.length c0_2, .slice A0_3 l0_3.length c0_3, .slice A0_4 l0_4.length c0_4, .slice A0_5 l0_5.length c0_5, .slice A0_6 l0_6.length c0_6], .int .u64 a1, .int .i64 a2, .int .i64 a3] w fun e w' => e = .returned (.tuple #[.agg #[.int .u64 r1, .int .u64 r2, .int .u64 r3, .int .i64 r4, .int .i64 r5, .bool r6], .agg #[.int .u64 r7, .int .u64 r8, .int .u64 r9, .int .i64 r10, .int .i64 r11, .bool r12]]) ∧ Below w.heap.size w w' := by
 have hu28 := Try.underlying28
 have hu37 := Try.underlying37
 have hu35 := Try.underlying35
 have HR0_1 := am hr0_1
 have HC0_1 := am hc0_1
 clear hr0_1 hc0_1
 have HR0_2 := am hr0_2
 have HC0_2 := am hc0_2
 clear hr0_2 hc0_2
 have HR0_3 := am hr0_3
 have HC0_3 := am hc0_3
 clear hr0_3 hc0_3
 have HR0_4 := am hr0_4
 have HC0_4 := am hc0_4
 clear hr0_4 hc0_4
 have HR0_5 := am hr0_5
 have HC0_5 := am hc0_5
 clear hr0_5 hc0_5
 have HR0_6 := am hr0_6
 have HC0_6 := am hc0_6
 clear hr0_6 hc0_6
 have HB := am (Below.refl w.heap.size w)
 have H : (if 0 ≤ a2 then (if a2 < (l0_3.length : Int) then ((celf_At.f a0_0 l0_1 l0_2 l0_3 l0_4 l0_5 l0_6 ((rd_T35 l0_3 a2).f2) ((rd_T35 l0_3 a2).f3)).bind fun t273 => ((image_Part.f k a0_0 l0_1 l0_2 l0_3 l0_4 l0_5 l0_6 a1 t273).bind fun bt274 => ((cap_Move.f bt274.1 bt274.2.1 bt274.2.2.1 (Go.bits .or .i64 bt274.2.2.2.1 128) bt274.2.2.2.2.1 bt274.2.2.2.2.2 (IntKind.u64.wrap (a1 + ((rd_T35 l0_3 a2).f2)))).bind fun bt280 => ((table_key.f a3).bind fun bt286 => ((cap_Seal.f bt280.1 bt280.2.1 bt280.2.2.1 bt280.2.2.2.1 bt280.2.2.2.2.1 bt280.2.2.2.2.2 bt286.1 bt286.2.1 bt286.2.2.1 bt286.2.2.2.1 bt286.2.2.2.2.1 bt286.2.2.2.2.2).bind fun bt292 => ((image_Own.f k a0_0 l0_1 l0_2 l0_3 l0_4 l0_5 l0_6 a1).bind fun bt298 => ((table_key.f a3).bind fun bt304 => ((cap_Seal.f bt298.1 bt298.2.1 bt298.2.2.1 bt298.2.2.2.1 bt298.2.2.2.2.1 bt298.2.2.2.2.2 bt304.1 bt304.2.1 bt304.2.2.1 bt304.2.2.2.1 bt304.2.2.2.2.1 bt304.2.2.2.2.2).bind fun bt310 => (some (bt292.1, bt292.2.1, bt292.2.2.1, bt292.2.2.2.1, bt292.2.2.2.2.1, bt292.2.2.2.2.2, bt310.1, bt310.2.1, bt310.2.2.1, bt310.2.2.2.1, bt310.2.2.2.2.1, bt310.2.2.2.2.2)))))))))) else (none)) else (none)) = some (r1, r2, r3, r4, r5, r6, r7, r8, r9, r10, r11, r12) := h
 clear h
 obtain ⟨c5, H⟩ := ic H
 have c5b0 : decide (0 ≤ a2) = true := decide_eq_true c5
 clear c5
 obtain ⟨c6, H⟩ := ic H
 have c6b0 : decide (a2 < (l0_3.length : Int)) = true := decide_eq_true c6
 clear c6
 replace H := Option.bind_eq_some_iff.mp H
 obtain ⟨t273, A70, H⟩ := H
 replace H : ((image_Part.f k a0_0 l0_1 l0_2 l0_3 l0_4 l0_5 l0_6 a1 t273).bind fun bt274 => ((cap_Move.f bt274.1 bt274.2.1 bt274.2.2.1 (Go.bits .or .i64 bt274.2.2.2.1 128) bt274.2.2.2.2.1 bt274.2.2.2.2.2 (IntKind.u64.wrap (a1 + ((rd_T35 l0_3 a2).f2)))).bind fun bt280 => ((table_key.f a3).bind fun bt286 => ((cap_Seal.f bt280.1 bt280.2.1 bt280.2.2.1 bt280.2.2.2.1 bt280.2.2.2.2.1 bt280.2.2.2.2.2 bt286.1 bt286.2.1 bt286.2.2.1 bt286.2.2.2.1 bt286.2.2.2.2.1 bt286.2.2.2.2.2).bind fun bt292 => ((image_Own.f k a0_0 l0_1 l0_2 l0_3 l0_4 l0_5 l0_6 a1).bind fun bt298 => ((table_key.f a3).bind fun bt304 => ((cap_Seal.f bt298.1 bt298.2.1 bt298.2.2.1 bt298.2.2.2.1 bt298.2.2.2.2.1 bt298.2.2.2.2.2 bt304.1 bt304.2.1 bt304.2.2.1 bt304.2.2.2.1 bt304.2.2.2.2.1 bt304.2.2.2.2.2).bind fun bt310 => (some (bt292.1, bt292.2.1, bt292.2.2.1, bt292.2.2.2.1, bt292.2.2.2.2.1, bt292.2.2.2.2.2, bt310.1, bt310.2.1, bt310.2.2.1, bt310.2.2.2.1, bt310.2.2.2.2.1, bt310.2.2.2.2.2))))))))) = some (r1, r2, r3, r4, r5, r6, r7, r8, r9, r10, r11, r12) := H
 have A7 := am A70
 clear A70
 replace H := Option.bind_eq_some_iff.mp H
 obtain ⟨⟨t274, t275, t276, t277, t278, t279⟩, A80, H⟩ := H
 replace H : ((cap_Move.f t274 t275 t276 (Go.bits .or .i64 t277 128) t278 t279 (IntKind.u64.wrap (a1 + ((rd_T35 l0_3 a2).f2)))).bind fun bt280 => ((table_key.f a3).bind fun bt286 => ((cap_Seal.f bt280.1 bt280.2.1 bt280.2.2.1 bt280.2.2.2.1 bt280.2.2.2.2.1 bt280.2.2.2.2.2 bt286.1 bt286.2.1 bt286.2.2.1 bt286.2.2.2.1 bt286.2.2.2.2.1 bt286.2.2.2.2.2).bind fun bt292 => ((image_Own.f k a0_0 l0_1 l0_2 l0_3 l0_4 l0_5 l0_6 a1).bind fun bt298 => ((table_key.f a3).bind fun bt304 => ((cap_Seal.f bt298.1 bt298.2.1 bt298.2.2.1 bt298.2.2.2.1 bt298.2.2.2.2.1 bt298.2.2.2.2.2 bt304.1 bt304.2.1 bt304.2.2.1 bt304.2.2.2.1 bt304.2.2.2.2.1 bt304.2.2.2.2.2).bind fun bt310 => (some (bt292.1, bt292.2.1, bt292.2.2.1, bt292.2.2.2.1, bt292.2.2.2.2.1, bt292.2.2.2.2.2, bt310.1, bt310.2.1, bt310.2.2.1, bt310.2.2.2.1, bt310.2.2.2.2.1, bt310.2.2.2.2.2)))))))) = some (r1, r2, r3, r4, r5, r6, r7, r8, r9, r10, r11, r12) := H
 have A8 := am A80
 clear A80
 replace H := Option.bind_eq_some_iff.mp H
 obtain ⟨⟨t280, t281, t282, t283, t284, t285⟩, A90, H⟩ := H
 replace H : ((table_key.f a3).bind fun bt286 => ((cap_Seal.f t280 t281 t282 t283 t284 t285 bt286.1 bt286.2.1 bt286.2.2.1 bt286.2.2.2.1 bt286.2.2.2.2.1 bt286.2.2.2.2.2).bind fun bt292 => ((image_Own.f k a0_0 l0_1 l0_2 l0_3 l0_4 l0_5 l0_6 a1).bind fun bt298 => ((table_key.f a3).bind fun bt304 => ((cap_Seal.f bt298.1 bt298.2.1 bt298.2.2.1 bt298.2.2.2.1 bt298.2.2.2.2.1 bt298.2.2.2.2.2 bt304.1 bt304.2.1 bt304.2.2.1 bt304.2.2.2.1 bt304.2.2.2.2.1 bt304.2.2.2.2.2).bind fun bt310 => (some (bt292.1, bt292.2.1, bt292.2.2.1, bt292.2.2.2.1, bt292.2.2.2.2.1, bt292.2.2.2.2.2, bt310.1, bt310.2.1, bt310.2.2.1, bt310.2.2.2.1, bt310.2.2.2.2.1, bt310.2.2.2.2.2))))))) = some (r1, r2, r3, r4, r5, r6, r7, r8, r9, r10, r11, r12) := H
 have A9 := am A90
 clear A90
 replace H := Option.bind_eq_some_iff.mp H
 obtain ⟨⟨t286, t287, t288, t289, t290, t291⟩, A100, H⟩ := H
 replace H : ((cap_Seal.f t280 t281 t282 t283 t284 t285 t286 t287 t288 t289 t290 t291).bind fun bt292 => ((image_Own.f k a0_0 l0_1 l0_2 l0_3 l0_4 l0_5 l0_6 a1).bind fun bt298 => ((table_key.f a3).bind fun bt304 => ((cap_Seal.f bt298.1 bt298.2.1 bt298.2.2.1 bt298.2.2.2.1 bt298.2.2.2.2.1 bt298.2.2.2.2.2 bt304.1 bt304.2.1 bt304.2.2.1 bt304.2.2.2.1 bt304.2.2.2.2.1 bt304.2.2.2.2.2).bind fun bt310 => (some (bt292.1, bt292.2.1, bt292.2.2.1, bt292.2.2.2.1, bt292.2.2.2.2.1, bt292.2.2.2.2.2, bt310.1, bt310.2.1, bt310.2.2.1, bt310.2.2.2.1, bt310.2.2.2.2.1, bt310.2.2.2.2.2)))))) = some (r1, r2, r3, r4, r5, r6, r7, r8, r9, r10, r11, r12) := H
 have A10 := am A100
 clear A100
 replace H := Option.bind_eq_some_iff.mp H
 obtain ⟨⟨t292, t293, t294, t295, t296, t297⟩, A110, H⟩ := H
 replace H : ((image_Own.f k a0_0 l0_1 l0_2 l0_3 l0_4 l0_5 l0_6 a1).bind fun bt298 => ((table_key.f a3).bind fun bt304 => ((cap_Seal.f bt298.1 bt298.2.1 bt298.2.2.1 bt298.2.2.2.1 bt298.2.2.2.2.1 bt298.2.2.2.2.2 bt304.1 bt304.2.1 bt304.2.2.1 bt304.2.2.2.1 bt304.2.2.2.2.1 bt304.2.2.2.2.2).bind fun bt310 => (some (t292, t293, t294, t295, t296, t297, bt310.1, bt310.2.1, bt310.2.2.1, bt310.2.2.2.1, bt310.2.2.2.2.1, bt310.2.2.2.2.2))))) = some (r1, r2, r3, r4, r5, r6, r7, r8, r9, r10, r11, r12) := H
 have A11 := am A110
 clear A110
 replace H := Option.bind_eq_some_iff.mp H
 obtain ⟨⟨t298, t299, t300, t301, t302, t303⟩, A120, H⟩ := H
 replace H : ((table_key.f a3).bind fun bt304 => ((cap_Seal.f t298 t299 t300 t301 t302 t303 bt304.1 bt304.2.1 bt304.2.2.1 bt304.2.2.2.1 bt304.2.2.2.2.1 bt304.2.2.2.2.2).bind fun bt310 => (some (t292, t293, t294, t295, t296, t297, bt310.1, bt310.2.1, bt310.2.2.1, bt310.2.2.2.1, bt310.2.2.2.2.1, bt310.2.2.2.2.2)))) = some (r1, r2, r3, r4, r5, r6, r7, r8, r9, r10, r11, r12) := H
 have A12 := am A120
 clear A120
 replace H := Option.bind_eq_some_iff.mp H
 obtain ⟨⟨t304, t305, t306, t307, t308, t309⟩, A130, H⟩ := H
 replace H : ((cap_Seal.f t298 t299 t300 t301 t302 t303 t304 t305 t306 t307 t308 t309).bind fun bt310 => (some (t292, t293, t294, t295, t296, t297, bt310.1, bt310.2.1, bt310.2.2.1, bt310.2.2.2.1, bt310.2.2.2.2.1, bt310.2.2.2.2.2))) = some (r1, r2, r3, r4, r5, r6, r7, r8, r9, r10, r11, r12) := H
 have A13 := am A130
 clear A130
 replace H := Option.bind_eq_some_iff.mp H
 obtain ⟨⟨t310, t311, t312, t313, t314, t315⟩, A140, H⟩ := H
 replace H : (some (t292, t293, t294, t295, t296, t297, t310, t311, t312, t313, t314, t315)) = some (r1, r2, r3, r4, r5, r6, r7, r8, r9, r10, r11, r12) := H
 have A14 := am A140
 clear A140
 simp only [Option.some.injEq, Prod.mk.injEq] at H
 obtain ⟨rfl, rfl, rfl, rfl, rfl, rfl, rfl, rfl, rfl, rfl, rfl, rfl⟩ := H
 go_enter Try.func10, Try.ntmps10
 try go_wp2_with (first | ((with_reducible refine gate_dst (N := 4) rfl ?_); refine box_event ?hg (N := 4) ?hd (cs := #[.string a0_0, .slice A0_1 l0_1.length c0_1, .slice A0_2 l0_2.length c0_2, .slice A0_3 l0_3.length c0_3, .slice A0_4 l0_4.length c0_4, .slice A0_5 l0_5.length c0_5, .slice A0_6 l0_6.length c0_6]) (t := 28) ?hr ?_; (case hd => rfl); (case hg => rfl); (case hr => first | (go_simp; done) | (go_simp; rfl)); intro gb268 hg w15 hbox hb; have n0_ := bs HB hb; have n1_ := am (hbox); have n2_ := nz HB hg; have n3_ := nz HB hg; revert n0_ n1_ n2_ n3_; clear HB; intro HB BK268 GW268 GE268; clear hb hbox hg) | ((with_reducible refine gate_dst (N := 8) rfl ?_); refine box_event ?hg (N := 8) ?hd (cs := #[.int .u64 0, .int .u64 0, .int .u64 0, .int .i64 0, .int .i64 0, .bool false]) (t := 37) ?hr ?_; (case hd => rfl); (case hg => rfl); (case hr => first | (go_simp; done) | (go_simp; rfl)); intro gb269 hg w16 hbox hb; have n0_ := bw BK268 hb; have n1_ := bs HB hb; have n2_ := am (hbox); have n3_ := nz HB hg; have n4_ := nz HB hg; have n5_ := nl BK268 hg; have n6_ := nr BK268 hg; revert n0_ n1_ n2_ n3_ n4_ n5_ n6_; clear BK268 HB; intro BK268 HB BK269 GW269 GE269 NB268_269 NB269_268; clear hb hbox hg) | ((with_reducible refine gate_dst (N := 9) rfl ?_); refine box_event ?hg (N := 9) ?hd (cs := #[.int .u64 0, .int .u64 0, .int .u64 0, .int .i64 0, .int .i64 0, .bool false]) (t := 37) ?hr ?_; (case hd => rfl); (case hg => rfl); (case hr => first | (go_simp; done) | (go_simp; rfl)); intro gb270 hg w17 hbox hb; have n0_ := bw BK268 hb; have n1_ := bw BK269 hb; have n2_ := bs HB hb; have n3_ := am (hbox); have n4_ := nz HB hg; have n5_ := nz HB hg; have n6_ := nl BK268 hg; have n7_ := nr BK268 hg; have n8_ := nl BK269 hg; have n9_ := nr BK269 hg; revert n0_ n1_ n2_ n3_ n4_ n5_ n6_ n7_ n8_ n9_; clear BK268 BK269 HB; intro BK268 BK269 HB BK270 GW270 GE270 NB268_270 NB270_268 NB269_270 NB270_269; clear hb hbox hg; have hnb18 := NB268_269.out; have hnc18 := NB269_268.out; have hnb19 := NB268_270.out; have hnc19 := NB270_268.out; obtain ⟨hcz20_0, hcz20_1, hcz20_2, hcz20_3, hcz20_4, hcz20_5, hcz20_6, hfz20_0, hfz20_1, hfz20_2, hfz20_3, hfz20_4, hfz20_5, hfz20_6⟩ := cells7 BK268.out; have p271 : 0 ≤ (a2 : Int) := ud; have q271 : a2 < (l0_3.length : Int) := ud; obtain ⟨ad271, e271, hx271_0, hx271_1, hx271_2, hx271_3, hx271_4, hx271_5, hx271_6, hx271_7⟩ := at_T35 HR0_3.out a2 p271 q271; cases e271; replace hx271_0 := bcel HB hx271_0; replace hx271_1 := bcel HB hx271_1; replace hx271_2 := bcel HB hx271_2; replace hx271_3 := bcel HB hx271_3; replace hx271_4 := bcel HB hx271_4; replace hx271_5 := bcel HB hx271_5; replace hx271_6 := bcel HB hx271_6; replace hx271_7 := bcel HB hx271_7; replace p271 := eq_true p271; replace q271 := eq_true q271) | ((with_reducible refine gate_dst (N := 10) rfl ?_); refine box_event ?hg (N := 10) ?hd (cs := #[.string (⟨#[]⟩ : ByteArray), .string (⟨#[]⟩ : ByteArray), .int .u64 0, .int .u64 0, .int .i64 0, .int .i64 0, .int .i64 0, .bool false]) (t := 35) ?hr ?_; (case hd => rfl); (case hg => rfl); (case hr => first | (go_simp; done) | (go_simp; rfl)); intro gb272 hg w21 hbox hb; have n0_ := bw BK268 hb; have n1_ := bw BK269 hb; have n2_ := bw BK270 hb; have n3_ := bs HB hb; have n4_ := am (hbox); have n5_ := nz HB hg; have n6_ := nz HB hg; have n7_ := nl BK268 hg; have n8_ := nr BK268 hg; have n9_ := nl BK269 hg; have n10_ := nr BK269 hg; have n11_ := nl BK270 hg; have n12_ := nr BK270 hg; revert n0_ n1_ n2_ n3_ n4_ n5_ n6_ n7_ n8_ n9_ n10_ n11_ n12_; clear BK268 BK269 BK270 HB; intro BK268 BK269 BK270 HB BK272 GW272 GE272 NB268_272 NB272_268 NB269_272 NB272_269 NB270_272 NB272_270; clear hb hbox hg; have hnb22 := NB272_268.out; have hnc22 := NB268_272.out; have hnb23 := NB272_269.out; have hnc23 := NB269_272.out; have hnb24 := NB272_270.out; have hnc24 := NB270_272.out; obtain ⟨hcz25_0, hcz25_1, hcz25_2, hcz25_3, hcz25_4, hcz25_5, hcz25_6, hcz25_7, hfz25_0, hfz25_1, hfz25_2, hfz25_3, hfz25_4, hfz25_5, hfz25_6, hfz25_7⟩ := cells8 BK272.out) | ((with_reducible refine gate_store (t := 35) (p := 10) rfl ?_); refine store_event (t := 35) (p := 10) (v := ?vo_w26) (w1 := ((((((((w21.setCell ⟨gb272, 0, none⟩ (.string ((rd_T35 l0_3 a2).f0))).setCell ⟨gb272, 1, none⟩ (.string ((rd_T35 l0_3 a2).f1))).setCell ⟨gb272, 2, none⟩ (.int .u64 ((rd_T35 l0_3 a2).f2))).setCell ⟨gb272, 3, none⟩ (.int .u64 ((rd_T35 l0_3 a2).f3))).setCell ⟨gb272, 4, none⟩ (.int .i64 ((rd_T35 l0_3 a2).f4))).setCell ⟨gb272, 5, none⟩ (.int .i64 ((rd_T35 l0_3 a2).f5))).setCell ⟨gb272, 6, none⟩ (.int .i64 ((rd_T35 l0_3 a2).f6))).setCell ⟨gb272, 7, none⟩ (.bool ((rd_T35 l0_3 a2).f7)))) ?hg ?ho ?hn ?hr ?_; (case ho => rfl); (case hg => rfl); (case hn => rfl); (case hr => first | (go_simp; done) | (go_simp; rfl)); intro w26 hw; have n0_ := bf8 hw NB268_272 BK268; have n1_ := bf8 hw NB269_272 BK269; have n2_ := bf8 hw NB270_272 BK270; have n3_ := bp8 #[.string ((rd_T35 l0_3 a2).f0), .string ((rd_T35 l0_3 a2).f1), .int .u64 ((rd_T35 l0_3 a2).f2), .int .u64 ((rd_T35 l0_3 a2).f3), .int .i64 ((rd_T35 l0_3 a2).f4), .int .i64 ((rd_T35 l0_3 a2).f5), .int .i64 ((rd_T35 l0_3 a2).f6), .bool ((rd_T35 l0_3 a2).f7)] hw BK272; have n4_ : Aside0 (Below w.heap.size w w26) := ⟨(by rw [hw]; exact (uc HB.out))⟩; revert n0_ n1_ n2_ n3_ n4_; clear hw BK268 BK269 BK270 BK272 HB; intro BK268 BK269 BK270 BK272 HB))
 have n0_ := am (blk_drew BK268.out)
 have n1_ := am (blk_drew BK269.out)
 have n2_ := am (blk_drew BK270.out)
 have n3_ := am (blk_drew BK272.out)
 have n4_ := am (below_drew1 HB.out)
 revert n0_ n1_ n2_ n3_ n4_
 clear BK268 BK269 BK270 BK272 HB
 intro BK268 BK269 BK270 BK272 HB
 refine sr 10 [] (hB7 BK268 (hE8 BK272)) (fun hHeld => ?_); refine with_tabW table_Entry.tab2 table_Entry.bits2 (fun HT_ HW_ => ?_)
 generalize w26.drew = w27 at BK268 BK269 BK270 BK272 HB hHeld ⊢
 refine pv 1 17 (bA 10 2) HT_ ?_
 refine pv 3 19 (bA 10 10) HT_ ?_
 refine pv 5 21 (bA 10 42) HT_ ?_
 refine tv 0 16 (bA 10 43) HT_ HW_ hHeld ?_ (hy := by rintro w' ⟨s0, s1, s2, s3, s4, s5, s6, s7, s8, s9, s10, s11, s12, s13, s14⟩; go_simp; with_reducible rfl)
 refine tv 2 18 (bA 10 47) HT_ HW_ hHeld ?_ (hy := by rintro w' ⟨s0, s1, s2, s3, s4, s5, s6, s7, s8, s9, s10, s11, s12, s13, s14⟩; go_simp; with_reducible rfl)
 refine tv 4 20 (bA 10 63) HT_ HW_ hHeld ?_ (hy := by rintro w' ⟨s0, s1, s2, s3, s4, s5, s6, s7, s8, s9, s10, s11, s12, s13, s14⟩; go_simp; with_reducible rfl)
 refine tv 6 22 (bA 10 127) HT_ HW_ hHeld ?_ (hy := by rintro w' ⟨s0, s1, s2, s3, s4, s5, s6, s7, s8, s9, s10, s11, s12, s13, s14⟩; go_simp; with_reducible rfl)
 refine one_ (i := 7) (N := some 23) (bA 10 255) rfl rfl (one_of HT_.out (by kernel_rfl)) (by decide) (fun K hK => ?_)
 refine goes_ Try.func24 (by kernel_rfl) rfl #[.agg #[.string a0_0, .slice A0_1 l0_1.length c0_1, .slice A0_2 l0_2.length c0_2, .slice (some ad271) l0_3.length c0_3, .slice A0_4 l0_4.length c0_4, .slice A0_5 l0_5.length c0_5, .slice A0_6 l0_6.length c0_6], .int .u64 ((rd_T35 l0_3 a2).f2), .int .u64 ((rd_T35 l0_3 a2).f3)] (by rfl) rfl rfl (by (try simp only [List.map_toArray, List.map_cons, List.map_nil]); first | done | rfl | (simp only [List.length_drop, List.length_take]; rfl)) ?_
 with_reducible refine (celf_At.calls a0_0 _ _ l0_1 _ _ l0_2 _ _ l0_3 _ _ l0_4 _ _ l0_5 _ _ l0_6 ((rd_T35 l0_3 a2).f2) ((rd_T35 l0_3 a2).f3) t273 _ ?side1 ?side2 ?side3 ?side4 ?side5 ?side6 ?side7 ?side8 ?side9 ?side10 ?side11 ?side12 A7.out).mono ?_
 (case side1 => exact us (Kd.C_below HR0_1.out HB.out))
 (case side2 => exact HC0_1.out)
 (case side3 => exact us (Kd.C_below HR0_2.out HB.out))
 (case side4 => exact HC0_2.out)
 (case side5 => exact us (Kd.C_below HR0_3.out HB.out))
 (case side6 => exact HC0_3.out)
 (case side7 => exact us (Kd.C_below HR0_4.out HB.out))
 (case side8 => exact HC0_4.out)
 (case side9 => exact us (Kd.C_below HR0_5.out HB.out))
 (case side10 => exact HC0_5.out)
 (case side11 => exact us (Kd.C_below HR0_6.out HB.out))
 (case side12 => exact HC0_6.out)
 rintro e w28 ⟨rfl, hb⟩
 refine ⟨_, rfl, ?_⟩
 have n0_ := bw BK268 hb
 have n1_ := bw BK269 hb
 have n2_ := bw BK270 hb
 have n3_ := bw BK272 hb
 have n4_ := bs HB hb
 revert n0_ n1_ n2_ n3_ n4_
 clear BK268 BK269 BK270 BK272 HB
 intro BK268 BK269 BK270 BK272 HB
 (try clear hb)
 (try clear hb2)
 (try clear hk)
 (try clear hi)
 refine hK.out _ _ ⟨cz BK268 0, cz BK268 1, cz BK268 2, cz BK268 3, cz BK268 4, cz BK268 5, cz BK268 6, cz BK272 0, cz BK272 1, cz BK272 2, cz BK272 3, cz BK272 4, cz BK272 5, cz BK272 6, cz BK272 7⟩ (fun hHeld => ?_)
 clear hK K
 refine norm_ (a' := ?_) ?_ ?_
 rotate_left
 ·show Act.put _ (some 23) _ = _
  simp only [Act.put, List.setIfInBounds_toArray, List.set_cons_zero, List.set_cons_succ, i64_w, i32_w]
  rfl
 refine one_ (i := 8) (N := some 24) (bA 10 511) rfl rfl (one_of HT_.out (by kernel_rfl)) (by decide) (fun K hK => ?_)
 refine goes_ Try.func23 (by kernel_rfl) rfl #[.agg #[.string a0_0, .slice A0_1 l0_1.length c0_1, .slice A0_2 l0_2.length c0_2, .slice (some ad271) l0_3.length c0_3, .slice A0_4 l0_4.length c0_4, .slice A0_5 l0_5.length c0_5, .slice A0_6 l0_6.length c0_6], .int .u64 a1, .int .i64 t273] (by rfl) rfl rfl (by (try simp only [List.map_toArray, List.map_cons, List.map_nil]); first | done | rfl | (simp only [List.length_drop, List.length_take]; rfl)) ?_
 with_reducible refine (image_Part.calls k a0_0 _ _ l0_1 _ _ l0_2 _ _ l0_3 _ _ l0_4 _ _ l0_5 _ _ l0_6 a1 t273 t274 t275 t276 t277 t278 t279 _ ?side1 ?side2 ?side3 ?side4 ?side5 ?side6 ?side7 ?side8 ?side9 ?side10 ?side11 ?side12 A8.out).mono ?_
 (case side1 => exact us (Kd.C_below HR0_1.out HB.out))
 (case side2 => exact HC0_1.out)
 (case side3 => exact us (Kd.C_below HR0_2.out HB.out))
 (case side4 => exact HC0_2.out)
 (case side5 => exact us (Kd.C_below HR0_3.out HB.out))
 (case side6 => exact HC0_3.out)
 (case side7 => exact us (Kd.C_below HR0_4.out HB.out))
 (case side8 => exact HC0_4.out)
 (case side9 => exact us (Kd.C_below HR0_5.out HB.out))
 (case side10 => exact HC0_5.out)
 (case side11 => exact us (Kd.C_below HR0_6.out HB.out))
 (case side12 => exact HC0_6.out)
 rintro e w29 ⟨rfl, hb⟩
 refine ⟨_, rfl, ?_⟩
 have n0_ := bw BK268 hb
 have n1_ := bw BK269 hb
 have n2_ := bw BK270 hb
 have n3_ := bw BK272 hb
 have n4_ := bs HB hb
 revert n0_ n1_ n2_ n3_ n4_
 clear BK268 BK269 BK270 BK272 HB
 intro BK268 BK269 BK270 BK272 HB
 (try clear hb)
 (try clear hb2)
 (try clear hk)
 (try clear hi)
 refine hK.out _ _ ⟨cz BK268 0, cz BK268 1, cz BK268 2, cz BK268 3, cz BK268 4, cz BK268 5, cz BK268 6, cz BK272 0, cz BK272 1, cz BK272 2, cz BK272 3, cz BK272 4, cz BK272 5, cz BK272 6, cz BK272 7⟩ (fun hHeld => ?_)
 clear hK K
 refine norm_ (a' := ?_) ?_ ?_
 rotate_left
 ·show Act.put _ (some 24) _ = _
  simp only [Act.put, List.setIfInBounds_toArray, List.set_cons_zero, List.set_cons_succ, i64_w, i32_w]
  rfl
 refine one_ (i := 9) (N := none) (bA 10 1023) rfl rfl (one_of HT_.out (by kernel_rfl)) (by decide) (fun K hK => ?_)
 have hs30 : w29.cell? ⟨gb269, 0, none⟩ = some (.int .u64 0) := cz BK269 0
 have hfs30 := fz BK269 0
 have hns30_0 := NB268_269.out
 have hns30_2 := NB270_269.out
 have hns30_3 := NB272_269.out
 have hms30_0 := NB269_268.out
 have hms30_2 := NB269_270.out
 have hms30_3 := NB269_272.out
 have hs31 : w29.cell? ⟨gb269, 1, none⟩ = some (.int .u64 0) := cz BK269 1
 have hfs31 := fz BK269 1
 have hns31_0 := NB268_269.out
 have hns31_2 := NB270_269.out
 have hns31_3 := NB272_269.out
 have hms31_0 := NB269_268.out
 have hms31_2 := NB269_270.out
 have hms31_3 := NB269_272.out
 have hs32 : w29.cell? ⟨gb269, 2, none⟩ = some (.int .u64 0) := cz BK269 2
 have hfs32 := fz BK269 2
 have hns32_0 := NB268_269.out
 have hns32_2 := NB270_269.out
 have hns32_3 := NB272_269.out
 have hms32_0 := NB269_268.out
 have hms32_2 := NB269_270.out
 have hms32_3 := NB269_272.out
 have hs33 : w29.cell? ⟨gb269, 3, none⟩ = some (.int .i64 0) := cz BK269 3
 have hfs33 := fz BK269 3
 have hns33_0 := NB268_269.out
 have hns33_2 := NB270_269.out
 have hns33_3 := NB272_269.out
 have hms33_0 := NB269_268.out
 have hms33_2 := NB269_270.out
 have hms33_3 := NB269_272.out
 have hs34 : w29.cell? ⟨gb269, 4, none⟩ = some (.int .i64 0) := cz BK269 4
 have hfs34 := fz BK269 4
 have hns34_0 := NB268_269.out
 have hns34_2 := NB270_269.out
 have hns34_3 := NB272_269.out
 have hms34_0 := NB269_268.out
 have hms34_2 := NB269_270.out
 have hms34_3 := NB269_272.out
 have hs35 : w29.cell? ⟨gb269, 5, none⟩ = some (.bool false) := cz BK269 5
 have hfs35 := fz BK269 5
 have hns35_0 := NB268_269.out
 have hns35_2 := NB270_269.out
 have hns35_3 := NB272_269.out
 have hms35_0 := NB269_268.out
 have hms35_2 := NB269_270.out
 have hms35_3 := NB269_272.out
 refine skip_ (w1 := ?_) (by rfl) rfl ?_ ?_
 rotate_left
 ·go_simp
  rfl
 refine hK.out _ _ ⟨((cnf6 (NB268_269.out)).trans (hHeld.1)), ((cnf6 (NB268_269.out)).trans (hHeld.2.1)), ((cnf6 (NB268_269.out)).trans (hHeld.2.2.1)), ((cnf6 (NB268_269.out)).trans (hHeld.2.2.2.1)), ((cnf6 (NB268_269.out)).trans (hHeld.2.2.2.2.1)), ((cnf6 (NB268_269.out)).trans (hHeld.2.2.2.2.2.1)), ((cnf6 (NB268_269.out)).trans (hHeld.2.2.2.2.2.2.1)), ((cnf6 (NB272_269.out)).trans (hHeld.2.2.2.2.2.2.2.1)), ((cnf6 (NB272_269.out)).trans (hHeld.2.2.2.2.2.2.2.2.1)), ((cnf6 (NB272_269.out)).trans (hHeld.2.2.2.2.2.2.2.2.2.1)), ((cnf6 (NB272_269.out)).trans (hHeld.2.2.2.2.2.2.2.2.2.2.1)), ((cnf6 (NB272_269.out)).trans (hHeld.2.2.2.2.2.2.2.2.2.2.2.1)), ((cnf6 (NB272_269.out)).trans (hHeld.2.2.2.2.2.2.2.2.2.2.2.2.1)), ((cnf6 (NB272_269.out)).trans (hHeld.2.2.2.2.2.2.2.2.2.2.2.2.2.1)), ((cnf6 (NB272_269.out)).trans (hHeld.2.2.2.2.2.2.2.2.2.2.2.2.2.2))⟩ (fun hHeld => ?_)
 clear hK K
 refine done_ (done_of HT_.out (by kernel_rfl)) ?_
 have hnb36 := NB269_270.out
 have hnc36 := NB270_269.out
 obtain ⟨hcz37_0, hcz37_1, hcz37_2, hcz37_3, hcz37_4, hcz37_5, hfz37_0, hfz37_1, hfz37_2, hfz37_3, hfz37_4, hfz37_5⟩ := cl6 BK269
 obtain ⟨hcz38_0, hcz38_1, hcz38_2, hcz38_3, hcz38_4, hcz38_5, hcz38_6, hcz38_7, hfz38_0, hfz38_1, hfz38_2, hfz38_3, hfz38_4, hfz38_5, hfz38_6, hfz38_7⟩ := cl8 BK272
 go_upto_region 3 with (fail)
 refine gen_eq (fun wq1 hw => ?_)
 have n0_ := bf6 hw NB268_269 BK268
 have n1_ := bp6 #[.int .u64 t274, .int .u64 t275, .int .u64 t276, .int .i64 t277, .int .i64 t278, .bool t279] hw BK269
 have n2_ := bf6 hw NB270_269 BK270
 have n3_ := bf6 hw NB272_269 BK272
 have n4_ : Aside0 (Below w.heap.size w wq1) := ⟨by rw [hw]; repeat (first | (with_reducible first | exact HB.out | apply below_alloc | apply pw_below_drewN | apply below_drew1 | refine below_set ?_ GE269.out) | exact HB.out)⟩
 clear hw BK268 BK269 BK270 BK272 HB
 revert n0_ n1_ n2_ n3_ n4_
 intro BK268 BK269 BK270 BK272 HB
 have hcwq1_gb268_0 : wq1.cell? ⟨gb268, 0, none⟩ = some (.string a0_0) := cz BK268 0
 have hfwq1_gb268_0 := fz BK268 0
 have hcwq1_gb268_1 : wq1.cell? ⟨gb268, 1, none⟩ = some (.slice A0_1 l0_1.length c0_1) := cz BK268 1
 have hfwq1_gb268_1 := fz BK268 1
 have hcwq1_gb268_2 : wq1.cell? ⟨gb268, 2, none⟩ = some (.slice A0_2 l0_2.length c0_2) := cz BK268 2
 have hfwq1_gb268_2 := fz BK268 2
 have hcwq1_gb268_3 : wq1.cell? ⟨gb268, 3, none⟩ = some (.slice (some ad271) l0_3.length c0_3) := cz BK268 3
 have hfwq1_gb268_3 := fz BK268 3
 have hcwq1_gb268_4 : wq1.cell? ⟨gb268, 4, none⟩ = some (.slice A0_4 l0_4.length c0_4) := cz BK268 4
 have hfwq1_gb268_4 := fz BK268 4
 have hcwq1_gb268_5 : wq1.cell? ⟨gb268, 5, none⟩ = some (.slice A0_5 l0_5.length c0_5) := cz BK268 5
 have hfwq1_gb268_5 := fz BK268 5
 have hcwq1_gb268_6 : wq1.cell? ⟨gb268, 6, none⟩ = some (.slice A0_6 l0_6.length c0_6) := cz BK268 6
 have hfwq1_gb268_6 := fz BK268 6
 have hcwq1_gb269_0 : wq1.cell? ⟨gb269, 0, none⟩ = some (.int .u64 t274) := cz BK269 0
 have hfwq1_gb269_0 := fz BK269 0
 have hcwq1_gb269_1 : wq1.cell? ⟨gb269, 1, none⟩ = some (.int .u64 t275) := cz BK269 1
 have hfwq1_gb269_1 := fz BK269 1
 have hcwq1_gb269_2 : wq1.cell? ⟨gb269, 2, none⟩ = some (.int .u64 t276) := cz BK269 2
 have hfwq1_gb269_2 := fz BK269 2
 have hcwq1_gb269_3 : wq1.cell? ⟨gb269, 3, none⟩ = some (.int .i64 t277) := cz BK269 3
 have hfwq1_gb269_3 := fz BK269 3
 have hcwq1_gb269_4 : wq1.cell? ⟨gb269, 4, none⟩ = some (.int .i64 t278) := cz BK269 4
 have hfwq1_gb269_4 := fz BK269 4
 have hcwq1_gb269_5 : wq1.cell? ⟨gb269, 5, none⟩ = some (.bool t279) := cz BK269 5
 have hfwq1_gb269_5 := fz BK269 5
 have hcwq1_gb270_0 : wq1.cell? ⟨gb270, 0, none⟩ = some (.int .u64 0) := cz BK270 0
 have hfwq1_gb270_0 := fz BK270 0
 have hcwq1_gb270_1 : wq1.cell? ⟨gb270, 1, none⟩ = some (.int .u64 0) := cz BK270 1
 have hfwq1_gb270_1 := fz BK270 1
 have hcwq1_gb270_2 : wq1.cell? ⟨gb270, 2, none⟩ = some (.int .u64 0) := cz BK270 2
 have hfwq1_gb270_2 := fz BK270 2
 have hcwq1_gb270_3 : wq1.cell? ⟨gb270, 3, none⟩ = some (.int .i64 0) := cz BK270 3
 have hfwq1_gb270_3 := fz BK270 3
 have hcwq1_gb270_4 : wq1.cell? ⟨gb270, 4, none⟩ = some (.int .i64 0) := cz BK270 4
 have hfwq1_gb270_4 := fz BK270 4
 have hcwq1_gb270_5 : wq1.cell? ⟨gb270, 5, none⟩ = some (.bool false) := cz BK270 5
 have hfwq1_gb270_5 := fz BK270 5
 have hcwq1_gb272_0 : wq1.cell? ⟨gb272, 0, none⟩ = some (.string ((rd_T35 l0_3 a2).f0)) := cz BK272 0
 have hfwq1_gb272_0 := fz BK272 0
 have hcwq1_gb272_1 : wq1.cell? ⟨gb272, 1, none⟩ = some (.string ((rd_T35 l0_3 a2).f1)) := cz BK272 1
 have hfwq1_gb272_1 := fz BK272 1
 have hcwq1_gb272_2 : wq1.cell? ⟨gb272, 2, none⟩ = some (.int .u64 ((rd_T35 l0_3 a2).f2)) := cz BK272 2
 have hfwq1_gb272_2 := fz BK272 2
 have hcwq1_gb272_3 : wq1.cell? ⟨gb272, 3, none⟩ = some (.int .u64 ((rd_T35 l0_3 a2).f3)) := cz BK272 3
 have hfwq1_gb272_3 := fz BK272 3
 have hcwq1_gb272_4 : wq1.cell? ⟨gb272, 4, none⟩ = some (.int .i64 ((rd_T35 l0_3 a2).f4)) := cz BK272 4
 have hfwq1_gb272_4 := fz BK272 4
 have hcwq1_gb272_5 : wq1.cell? ⟨gb272, 5, none⟩ = some (.int .i64 ((rd_T35 l0_3 a2).f5)) := cz BK272 5
 have hfwq1_gb272_5 := fz BK272 5
 have hcwq1_gb272_6 : wq1.cell? ⟨gb272, 6, none⟩ = some (.int .i64 ((rd_T35 l0_3 a2).f6)) := cz BK272 6
 have hfwq1_gb272_6 := fz BK272 6
 have hcwq1_gb272_7 : wq1.cell? ⟨gb272, 7, none⟩ = some (.bool ((rd_T35 l0_3 a2).f7)) := cz BK272 7
 have hfwq1_gb272_7 := fz BK272 7
 go_upto_region 4 with (fail)
 refine gen_eq (fun wq2 hw => ?_)
 have n0_ := bf1 hw NB268_269 BK268
 have n1_ : Aside0 (wq2.heap[gb269]? = some (.cells #[.int .u64 t274, .int .u64 t275, .int .u64 t276, .int .i64 (Go.bits .or .i64 t277 128), .int .i64 t278, .bool t279] 37 (0, 0))) := ⟨by rw [hw]; exact blk_put BK269.out 3 _ rfl⟩
 have n2_ := bf1 hw NB270_269 BK270
 have n3_ := bf1 hw NB272_269 BK272
 have n4_ : Aside0 (Below w.heap.size w wq2) := ⟨by rw [hw]; repeat (first | (with_reducible first | exact HB.out | apply below_alloc | apply pw_below_drewN | apply below_drew1 | refine below_set ?_ GE269.out) | exact HB.out)⟩
 clear hw BK268 BK269 BK270 BK272 HB
 revert n0_ n1_ n2_ n3_ n4_
 intro BK268 BK269 BK270 BK272 HB
 have hcwq2_gb268_0 : wq2.cell? ⟨gb268, 0, none⟩ = some (.string a0_0) := cz BK268 0
 have hfwq2_gb268_0 := fz BK268 0
 have hcwq2_gb268_1 : wq2.cell? ⟨gb268, 1, none⟩ = some (.slice A0_1 l0_1.length c0_1) := cz BK268 1
 have hfwq2_gb268_1 := fz BK268 1
 have hcwq2_gb268_2 : wq2.cell? ⟨gb268, 2, none⟩ = some (.slice A0_2 l0_2.length c0_2) := cz BK268 2
 have hfwq2_gb268_2 := fz BK268 2
 have hcwq2_gb268_3 : wq2.cell? ⟨gb268, 3, none⟩ = some (.slice (some ad271) l0_3.length c0_3) := cz BK268 3
 have hfwq2_gb268_3 := fz BK268 3
 have hcwq2_gb268_4 : wq2.cell? ⟨gb268, 4, none⟩ = some (.slice A0_4 l0_4.length c0_4) := cz BK268 4
 have hfwq2_gb268_4 := fz BK268 4
 have hcwq2_gb268_5 : wq2.cell? ⟨gb268, 5, none⟩ = some (.slice A0_5 l0_5.length c0_5) := cz BK268 5
 have hfwq2_gb268_5 := fz BK268 5
 have hcwq2_gb268_6 : wq2.cell? ⟨gb268, 6, none⟩ = some (.slice A0_6 l0_6.length c0_6) := cz BK268 6
 have hfwq2_gb268_6 := fz BK268 6
 have hcwq2_gb269_0 : wq2.cell? ⟨gb269, 0, none⟩ = some (.int .u64 t274) := cz BK269 0
 have hfwq2_gb269_0 := fz BK269 0
 have hcwq2_gb269_1 : wq2.cell? ⟨gb269, 1, none⟩ = some (.int .u64 t275) := cz BK269 1
 have hfwq2_gb269_1 := fz BK269 1
 have hcwq2_gb269_2 : wq2.cell? ⟨gb269, 2, none⟩ = some (.int .u64 t276) := cz BK269 2
 have hfwq2_gb269_2 := fz BK269 2
 have hcwq2_gb269_3 : wq2.cell? ⟨gb269, 3, none⟩ = some (.int .i64 (Go.bits .or .i64 t277 128)) := cz BK269 3
 have hfwq2_gb269_3 := fz BK269 3
 have hcwq2_gb269_4 : wq2.cell? ⟨gb269, 4, none⟩ = some (.int .i64 t278) := cz BK269 4
 have hfwq2_gb269_4 := fz BK269 4
 have hcwq2_gb269_5 : wq2.cell? ⟨gb269, 5, none⟩ = some (.bool t279) := cz BK269 5
 have hfwq2_gb269_5 := fz BK269 5
 have hcwq2_gb270_0 : wq2.cell? ⟨gb270, 0, none⟩ = some (.int .u64 0) := cz BK270 0
 have hfwq2_gb270_0 := fz BK270 0
 have hcwq2_gb270_1 : wq2.cell? ⟨gb270, 1, none⟩ = some (.int .u64 0) := cz BK270 1
 have hfwq2_gb270_1 := fz BK270 1
 have hcwq2_gb270_2 : wq2.cell? ⟨gb270, 2, none⟩ = some (.int .u64 0) := cz BK270 2
 have hfwq2_gb270_2 := fz BK270 2
 have hcwq2_gb270_3 : wq2.cell? ⟨gb270, 3, none⟩ = some (.int .i64 0) := cz BK270 3
 have hfwq2_gb270_3 := fz BK270 3
 have hcwq2_gb270_4 : wq2.cell? ⟨gb270, 4, none⟩ = some (.int .i64 0) := cz BK270 4
 have hfwq2_gb270_4 := fz BK270 4
 have hcwq2_gb270_5 : wq2.cell? ⟨gb270, 5, none⟩ = some (.bool false) := cz BK270 5
 have hfwq2_gb270_5 := fz BK270 5
 have hcwq2_gb272_0 : wq2.cell? ⟨gb272, 0, none⟩ = some (.string ((rd_T35 l0_3 a2).f0)) := cz BK272 0
 have hfwq2_gb272_0 := fz BK272 0
 have hcwq2_gb272_1 : wq2.cell? ⟨gb272, 1, none⟩ = some (.string ((rd_T35 l0_3 a2).f1)) := cz BK272 1
 have hfwq2_gb272_1 := fz BK272 1
 have hcwq2_gb272_2 : wq2.cell? ⟨gb272, 2, none⟩ = some (.int .u64 ((rd_T35 l0_3 a2).f2)) := cz BK272 2
 have hfwq2_gb272_2 := fz BK272 2
 have hcwq2_gb272_3 : wq2.cell? ⟨gb272, 3, none⟩ = some (.int .u64 ((rd_T35 l0_3 a2).f3)) := cz BK272 3
 have hfwq2_gb272_3 := fz BK272 3
 have hcwq2_gb272_4 : wq2.cell? ⟨gb272, 4, none⟩ = some (.int .i64 ((rd_T35 l0_3 a2).f4)) := cz BK272 4
 have hfwq2_gb272_4 := fz BK272 4
 have hcwq2_gb272_5 : wq2.cell? ⟨gb272, 5, none⟩ = some (.int .i64 ((rd_T35 l0_3 a2).f5)) := cz BK272 5
 have hfwq2_gb272_5 := fz BK272 5
 have hcwq2_gb272_6 : wq2.cell? ⟨gb272, 6, none⟩ = some (.int .i64 ((rd_T35 l0_3 a2).f6)) := cz BK272 6
 have hfwq2_gb272_6 := fz BK272 6
 have hcwq2_gb272_7 : wq2.cell? ⟨gb272, 7, none⟩ = some (.bool ((rd_T35 l0_3 a2).f7)) := cz BK272 7
 have hfwq2_gb272_7 := fz BK272 7
 clear hcwq1_gb268_0 hfwq1_gb268_0 hcwq1_gb268_1 hfwq1_gb268_1 hcwq1_gb268_2 hfwq1_gb268_2 hcwq1_gb268_3 hfwq1_gb268_3 hcwq1_gb268_4 hfwq1_gb268_4 hcwq1_gb268_5 hfwq1_gb268_5 hcwq1_gb268_6 hfwq1_gb268_6 hcwq1_gb269_0 hfwq1_gb269_0 hcwq1_gb269_1 hfwq1_gb269_1 hcwq1_gb269_2 hfwq1_gb269_2 hcwq1_gb269_3 hfwq1_gb269_3 hcwq1_gb269_4 hfwq1_gb269_4 hcwq1_gb269_5 hfwq1_gb269_5 hcwq1_gb270_0 hfwq1_gb270_0 hcwq1_gb270_1 hfwq1_gb270_1 hcwq1_gb270_2 hfwq1_gb270_2 hcwq1_gb270_3 hfwq1_gb270_3 hcwq1_gb270_4 hfwq1_gb270_4 hcwq1_gb270_5 hfwq1_gb270_5 hcwq1_gb272_0 hfwq1_gb272_0 hcwq1_gb272_1 hfwq1_gb272_1 hcwq1_gb272_2 hfwq1_gb272_2 hcwq1_gb272_3 hfwq1_gb272_3 hcwq1_gb272_4 hfwq1_gb272_4 hcwq1_gb272_5 hfwq1_gb272_5 hcwq1_gb272_6 hfwq1_gb272_6 hcwq1_gb272_7 hfwq1_gb272_7
 try go_wp2_with (first | ((with_reducible refine gate_dst (N := 34) rfl ?_); (with_reducible refine gate_callee (f := 26) rfl ?_); refine gl (some 34) Try.func26 #[.agg #[.int .u64 t274, .int .u64 t275, .int .u64 t276, .int .i64 (Go.bits .or .i64 t277 128), .int .i64 t278, .bool t279], .int .u64 (IntKind.u64.wrap (a1 + ((rd_T35 l0_3 a2).f2)))] ?_; (with_reducible refine (cap_Move.calls t274 t275 t276 (Go.bits .or .i64 t277 128) t278 t279 (IntKind.u64.wrap (a1 + ((rd_T35 l0_3 a2).f2))) t280 t281 t282 t283 t284 t285 _ A9.out).mono ?_); rintro e w39 ⟨rfl, hb⟩; refine ⟨_, rfl, ?_⟩; have n0_ := bw BK268 hb; have n1_ := bw BK269 hb; have n2_ := bw BK270 hb; have n3_ := bw BK272 hb; have n4_ := bs HB hb; revert n0_ n1_ n2_ n3_ n4_; clear BK268 BK269 BK270 BK272 HB; intro BK268 BK269 BK270 BK272 HB; (try clear hb); obtain ⟨hcz40_0, hcz40_1, hcz40_2, hcz40_3, hcz40_4, hcz40_5, hfz40_0, hfz40_1, hfz40_2, hfz40_3, hfz40_4, hfz40_5⟩ := cells6 BK269.out) | ((with_reducible refine gate_store (t := 37) (p := 8) rfl ?_); refine store_event (t := 37) (p := 8) (v := ?vo_w41) (w1 := ((((((w39.setCell ⟨gb269, 0, none⟩ (.int .u64 t280)).setCell ⟨gb269, 1, none⟩ (.int .u64 t281)).setCell ⟨gb269, 2, none⟩ (.int .u64 t282)).setCell ⟨gb269, 3, none⟩ (.int .i64 t283)).setCell ⟨gb269, 4, none⟩ (.int .i64 t284)).setCell ⟨gb269, 5, none⟩ (.bool t285))) ?hg ?ho ?hn ?hr ?_; (case ho => rfl); (case hg => rfl); (case hn => rfl); (case hr => first | (go_simp; done) | (go_simp; rfl)); intro w41 hw; have n0_ := bf6 hw NB268_269 BK268; have n1_ := bp6 #[.int .u64 t280, .int .u64 t281, .int .u64 t282, .int .i64 t283, .int .i64 t284, .bool t285] hw BK269; have n2_ := bf6 hw NB270_269 BK270; have n3_ := bf6 hw NB272_269 BK272; have n4_ : Aside0 (Below w.heap.size w w41) := ⟨(by rw [hw]; exact (uc HB.out))⟩; revert n0_ n1_ n2_ n3_ n4_; clear hw BK268 BK269 BK270 BK272 HB; intro BK268 BK269 BK270 BK272 HB))
 have n0_ := am (blk_drew BK268.out)
 have n1_ := am (blk_drew BK269.out)
 have n2_ := am (blk_drew BK270.out)
 have n3_ := am (blk_drew BK272.out)
 have n4_ := am (below_drew1 HB.out)
 revert n0_ n1_ n2_ n3_ n4_
 clear BK268 BK269 BK270 BK272 HB
 intro BK268 BK269 BK270 BK272 HB
 refine sr 12 [10, 11] (hB6 BK269 (hE7 BK268)) (fun hHeld => ?_); refine with_tabW table_Entry.tab5 table_Entry.bits5 (fun HT_ HW_ => ?_)
 generalize w41.drew = w42 at BK268 BK269 BK270 BK272 HB hHeld ⊢
 refine pv 1 36 (bA 12 2) HT_ ?_
 refine pv 5 40 (bA 12 34) HT_ ?_
 refine pv 7 42 (bA 12 162) HT_ ?_
 refine tv 0 35 (bA 12 163) HT_ HW_ hHeld ?_ (hy := by rintro w' ⟨s0, s1, s2, s3, s4, s5, s6, s7, s8, s9, s10, s11, s12⟩; go_simp; with_reducible rfl)
 refine tv 4 39 (bA 12 179) HT_ HW_ hHeld ?_ (hy := by rintro w' ⟨s0, s1, s2, s3, s4, s5, s6, s7, s8, s9, s10, s11, s12⟩; go_simp; with_reducible rfl)
 refine one_ (i := 2) (N := some 37) (bA 12 183) rfl rfl (one_of HT_.out (by kernel_rfl)) (by decide) (fun K hK => ?_)
 refine goes_ Try.func30 (by kernel_rfl) rfl #[.int .i64 a3] (by rfl) rfl rfl (by (try simp only [List.map_toArray, List.map_cons, List.map_nil]); first | done | rfl | (simp only [List.length_drop, List.length_take]; rfl)) ?_
 with_reducible refine (table_key.calls a3 t286 t287 t288 t289 t290 t291 _ A10.out).mono ?_
 rintro e w43 ⟨rfl, hb⟩
 refine ⟨_, rfl, ?_⟩
 have n0_ := bw BK268 hb
 have n1_ := bw BK269 hb
 have n2_ := bw BK270 hb
 have n3_ := bw BK272 hb
 have n4_ := bs HB hb
 revert n0_ n1_ n2_ n3_ n4_
 clear BK268 BK269 BK270 BK272 HB
 intro BK268 BK269 BK270 BK272 HB
 (try clear hb)
 (try clear hb2)
 (try clear hk)
 (try clear hi)
 refine hK.out _ _ ⟨cz BK269 0, cz BK269 1, cz BK269 2, cz BK269 3, cz BK269 4, cz BK269 5, cz BK268 0, cz BK268 1, cz BK268 2, cz BK268 3, cz BK268 4, cz BK268 5, cz BK268 6⟩ (fun hHeld => ?_)
 clear hK K
 refine norm_ (a' := ?_) ?_ ?_
 rotate_left
 ·show Act.put _ (some 37) _ = _
  simp only [Act.put, List.setIfInBounds_toArray, List.set_cons_zero, List.set_cons_succ, i64_w, i32_w]
  rfl
 refine one_ (i := 3) (N := some 38) (bA 12 191) rfl rfl (one_of HT_.out (by kernel_rfl)) (by decide) (fun K hK => ?_)
 refine goes_ Try.func29 (by kernel_rfl) rfl #[.agg #[.int .u64 t280, .int .u64 t281, .int .u64 t282, .int .i64 t283, .int .i64 t284, .bool t285], .agg #[.int .u64 t286, .int .u64 t287, .int .u64 t288, .int .i64 t289, .int .i64 t290, .bool t291]] (by rfl) rfl rfl (by (try simp only [List.map_toArray, List.map_cons, List.map_nil]); first | done | rfl | (simp only [List.length_drop, List.length_take]; rfl)) ?_
 with_reducible refine (cap_Seal.calls t280 t281 t282 t283 t284 t285 t286 t287 t288 t289 t290 t291 t292 t293 t294 t295 t296 t297 _ A11.out).mono ?_
 rintro e w44 ⟨rfl, hb⟩
 refine ⟨_, rfl, ?_⟩
 have n0_ := bw BK268 hb
 have n1_ := bw BK269 hb
 have n2_ := bw BK270 hb
 have n3_ := bw BK272 hb
 have n4_ := bs HB hb
 revert n0_ n1_ n2_ n3_ n4_
 clear BK268 BK269 BK270 BK272 HB
 intro BK268 BK269 BK270 BK272 HB
 (try clear hb)
 (try clear hb2)
 (try clear hk)
 (try clear hi)
 refine hK.out _ _ ⟨cz BK269 0, cz BK269 1, cz BK269 2, cz BK269 3, cz BK269 4, cz BK269 5, cz BK268 0, cz BK268 1, cz BK268 2, cz BK268 3, cz BK268 4, cz BK268 5, cz BK268 6⟩ (fun hHeld => ?_)
 clear hK K
 refine norm_ (a' := ?_) ?_ ?_
 rotate_left
 ·show Act.put _ (some 38) _ = _
  simp only [Act.put, List.setIfInBounds_toArray, List.set_cons_zero, List.set_cons_succ, i64_w, i32_w]
  rfl
 refine one_ (i := 6) (N := some 41) (bA 12 255) rfl rfl (one_of HT_.out (by kernel_rfl)) (by decide) (fun K hK => ?_)
 refine goes_ Try.func31 (by kernel_rfl) rfl #[.agg #[.string a0_0, .slice A0_1 l0_1.length c0_1, .slice A0_2 l0_2.length c0_2, .slice (some ad271) l0_3.length c0_3, .slice A0_4 l0_4.length c0_4, .slice A0_5 l0_5.length c0_5, .slice A0_6 l0_6.length c0_6], .int .u64 a1] (by rfl) rfl rfl (by (try simp only [List.map_toArray, List.map_cons, List.map_nil]); first | done | rfl | (simp only [List.length_drop, List.length_take]; rfl)) ?_
 with_reducible refine (image_Own.calls k a0_0 _ _ l0_1 _ _ l0_2 _ _ l0_3 _ _ l0_4 _ _ l0_5 _ _ l0_6 a1 t298 t299 t300 t301 t302 t303 _ ?side1 ?side2 ?side3 ?side4 ?side5 ?side6 ?side7 ?side8 ?side9 ?side10 ?side11 ?side12 A12.out).mono ?_
 (case side1 => exact us (Kd.C_below HR0_1.out HB.out))
 (case side2 => exact HC0_1.out)
 (case side3 => exact us (Kd.C_below HR0_2.out HB.out))
 (case side4 => exact HC0_2.out)
 (case side5 => exact us (Kd.C_below HR0_3.out HB.out))
 (case side6 => exact HC0_3.out)
 (case side7 => exact us (Kd.C_below HR0_4.out HB.out))
 (case side8 => exact HC0_4.out)
 (case side9 => exact us (Kd.C_below HR0_5.out HB.out))
 (case side10 => exact HC0_5.out)
 (case side11 => exact us (Kd.C_below HR0_6.out HB.out))
 (case side12 => exact HC0_6.out)
 rintro e w45 ⟨rfl, hb⟩
 refine ⟨_, rfl, ?_⟩
 have n0_ := bw BK268 hb
 have n1_ := bw BK269 hb
 have n2_ := bw BK270 hb
 have n3_ := bw BK272 hb
 have n4_ := bs HB hb
 revert n0_ n1_ n2_ n3_ n4_
 clear BK268 BK269 BK270 BK272 HB
 intro BK268 BK269 BK270 BK272 HB
 (try clear hb)
 (try clear hb2)
 (try clear hk)
 (try clear hi)
 refine hK.out _ _ ⟨cz BK269 0, cz BK269 1, cz BK269 2, cz BK269 3, cz BK269 4, cz BK269 5, cz BK268 0, cz BK268 1, cz BK268 2, cz BK268 3, cz BK268 4, cz BK268 5, cz BK268 6⟩ (fun hHeld => ?_)
 clear hK K
 refine norm_ (a' := ?_) ?_ ?_
 rotate_left
 ·show Act.put _ (some 41) _ = _
  simp only [Act.put, List.setIfInBounds_toArray, List.set_cons_zero, List.set_cons_succ, i64_w, i32_w]
  rfl
 refine one_ (i := 8) (N := some 43) (bA 12 511) rfl rfl (one_of HT_.out (by kernel_rfl)) (by decide) (fun K hK => ?_)
 refine goes_ Try.func30 (by kernel_rfl) rfl #[.int .i64 a3] (by rfl) rfl rfl (by (try simp only [List.map_toArray, List.map_cons, List.map_nil]); first | done | rfl | (simp only [List.length_drop, List.length_take]; rfl)) ?_
 with_reducible refine (table_key.calls a3 t304 t305 t306 t307 t308 t309 _ A13.out).mono ?_
 rintro e w46 ⟨rfl, hb⟩
 refine ⟨_, rfl, ?_⟩
 have n0_ := bw BK268 hb
 have n1_ := bw BK269 hb
 have n2_ := bw BK270 hb
 have n3_ := bw BK272 hb
 have n4_ := bs HB hb
 revert n0_ n1_ n2_ n3_ n4_
 clear BK268 BK269 BK270 BK272 HB
 intro BK268 BK269 BK270 BK272 HB
 (try clear hb)
 (try clear hb2)
 (try clear hk)
 (try clear hi)
 refine hK.out _ _ ⟨cz BK269 0, cz BK269 1, cz BK269 2, cz BK269 3, cz BK269 4, cz BK269 5, cz BK268 0, cz BK268 1, cz BK268 2, cz BK268 3, cz BK268 4, cz BK268 5, cz BK268 6⟩ (fun hHeld => ?_)
 clear hK K
 refine norm_ (a' := ?_) ?_ ?_
 rotate_left
 ·show Act.put _ (some 43) _ = _
  simp only [Act.put, List.setIfInBounds_toArray, List.set_cons_zero, List.set_cons_succ, i64_w, i32_w]
  rfl
 refine one_ (i := 9) (N := some 44) (bA 12 1023) rfl rfl (one_of HT_.out (by kernel_rfl)) (by decide) (fun K hK => ?_)
 refine goes_ Try.func29 (by kernel_rfl) rfl #[.agg #[.int .u64 t298, .int .u64 t299, .int .u64 t300, .int .i64 t301, .int .i64 t302, .bool t303], .agg #[.int .u64 t304, .int .u64 t305, .int .u64 t306, .int .i64 t307, .int .i64 t308, .bool t309]] (by rfl) rfl rfl (by (try simp only [List.map_toArray, List.map_cons, List.map_nil]); first | done | rfl | (simp only [List.length_drop, List.length_take]; rfl)) ?_
 with_reducible refine (cap_Seal.calls t298 t299 t300 t301 t302 t303 t304 t305 t306 t307 t308 t309 t310 t311 t312 t313 t314 t315 _ A14.out).mono ?_
 rintro e w47 ⟨rfl, hb⟩
 refine ⟨_, rfl, ?_⟩
 have n0_ := bw BK268 hb
 have n1_ := bw BK269 hb
 have n2_ := bw BK270 hb
 have n3_ := bw BK272 hb
 have n4_ := bs HB hb
 revert n0_ n1_ n2_ n3_ n4_
 clear BK268 BK269 BK270 BK272 HB
 intro BK268 BK269 BK270 BK272 HB
 (try clear hb)
 (try clear hb2)
 (try clear hk)
 (try clear hi)
 refine hK.out _ _ ⟨cz BK269 0, cz BK269 1, cz BK269 2, cz BK269 3, cz BK269 4, cz BK269 5, cz BK268 0, cz BK268 1, cz BK268 2, cz BK268 3, cz BK268 4, cz BK268 5, cz BK268 6⟩ (fun hHeld => ?_)
 clear hK K
 refine norm_ (a' := ?_) ?_ ?_
 rotate_left
 ·show Act.put _ (some 44) _ = _
  simp only [Act.put, List.setIfInBounds_toArray, List.set_cons_zero, List.set_cons_succ, i64_w, i32_w]
  rfl
 refine last_ (i := 10) (N := none) (bA 12 2047) rfl rfl (one_of HT_.out (by kernel_rfl)) (by decide) (fun K hK => ?_)
 have hs48 : w47.cell? ⟨gb269, 0, none⟩ = some (.int .u64 t280) := cz BK269 0
 have hfs48 := fz BK269 0
 have hns48_0 := NB268_269.out
 have hns48_2 := NB270_269.out
 have hns48_3 := NB272_269.out
 have hms48_0 := NB269_268.out
 have hms48_2 := NB269_270.out
 have hms48_3 := NB269_272.out
 have hs49 : w47.cell? ⟨gb269, 1, none⟩ = some (.int .u64 t281) := cz BK269 1
 have hfs49 := fz BK269 1
 have hns49_0 := NB268_269.out
 have hns49_2 := NB270_269.out
 have hns49_3 := NB272_269.out
 have hms49_0 := NB269_268.out
 have hms49_2 := NB269_270.out
 have hms49_3 := NB269_272.out
 have hs50 : w47.cell? ⟨gb269, 2, none⟩ = some (.int .u64 t282) := cz BK269 2
 have hfs50 := fz BK269 2
 have hns50_0 := NB268_269.out
 have hns50_2 := NB270_269.out
 have hns50_3 := NB272_269.out
 have hms50_0 := NB269_268.out
 have hms50_2 := NB269_270.out
 have hms50_3 := NB269_272.out
 have hs51 : w47.cell? ⟨gb269, 3, none⟩ = some (.int .i64 t283) := cz BK269 3
 have hfs51 := fz BK269 3
 have hns51_0 := NB268_269.out
 have hns51_2 := NB270_269.out
 have hns51_3 := NB272_269.out
 have hms51_0 := NB269_268.out
 have hms51_2 := NB269_270.out
 have hms51_3 := NB269_272.out
 have hs52 : w47.cell? ⟨gb269, 4, none⟩ = some (.int .i64 t284) := cz BK269 4
 have hfs52 := fz BK269 4
 have hns52_0 := NB268_269.out
 have hns52_2 := NB270_269.out
 have hns52_3 := NB272_269.out
 have hms52_0 := NB269_268.out
 have hms52_2 := NB269_270.out
 have hms52_3 := NB269_272.out
 have hs53 : w47.cell? ⟨gb269, 5, none⟩ = some (.bool t285) := cz BK269 5
 have hfs53 := fz BK269 5
 have hns53_0 := NB268_269.out
 have hns53_2 := NB270_269.out
 have hns53_3 := NB272_269.out
 have hms53_0 := NB269_268.out
 have hms53_2 := NB269_270.out
 have hms53_3 := NB269_272.out
 refine skip_ (w1 := ?_) (by rfl) rfl ?_ ?_
 rotate_left
 ·go_simp
  rfl
 refine hK.out _ _ ?_
 clear hK K
 refine last_ (i := 11) (N := none) (bA 12 4095) rfl rfl (one_of HT_.out (by kernel_rfl)) (by decide) (fun K hK => ?_)
 have hs54 : w47.cell? ⟨gb270, 0, none⟩ = some (.int .u64 0) := cz BK270 0
 have hfs54 := fz BK270 0
 have hns54_0 := NB268_270.out
 have hns54_1 := NB269_270.out
 have hns54_3 := NB272_270.out
 have hms54_0 := NB270_268.out
 have hms54_1 := NB270_269.out
 have hms54_3 := NB270_272.out
 have hs55 : w47.cell? ⟨gb270, 1, none⟩ = some (.int .u64 0) := cz BK270 1
 have hfs55 := fz BK270 1
 have hns55_0 := NB268_270.out
 have hns55_1 := NB269_270.out
 have hns55_3 := NB272_270.out
 have hms55_0 := NB270_268.out
 have hms55_1 := NB270_269.out
 have hms55_3 := NB270_272.out
 have hs56 : w47.cell? ⟨gb270, 2, none⟩ = some (.int .u64 0) := cz BK270 2
 have hfs56 := fz BK270 2
 have hns56_0 := NB268_270.out
 have hns56_1 := NB269_270.out
 have hns56_3 := NB272_270.out
 have hms56_0 := NB270_268.out
 have hms56_1 := NB270_269.out
 have hms56_3 := NB270_272.out
 have hs57 : w47.cell? ⟨gb270, 3, none⟩ = some (.int .i64 0) := cz BK270 3
 have hfs57 := fz BK270 3
 have hns57_0 := NB268_270.out
 have hns57_1 := NB269_270.out
 have hns57_3 := NB272_270.out
 have hms57_0 := NB270_268.out
 have hms57_1 := NB270_269.out
 have hms57_3 := NB270_272.out
 have hs58 : w47.cell? ⟨gb270, 4, none⟩ = some (.int .i64 0) := cz BK270 4
 have hfs58 := fz BK270 4
 have hns58_0 := NB268_270.out
 have hns58_1 := NB269_270.out
 have hns58_3 := NB272_270.out
 have hms58_0 := NB270_268.out
 have hms58_1 := NB270_269.out
 have hms58_3 := NB270_272.out
 have hs59 : w47.cell? ⟨gb270, 5, none⟩ = some (.bool false) := cz BK270 5
 have hfs59 := fz BK270 5
 have hns59_0 := NB268_270.out
 have hns59_1 := NB269_270.out
 have hns59_3 := NB272_270.out
 have hms59_0 := NB270_268.out
 have hms59_1 := NB270_269.out
 have hms59_3 := NB270_272.out
 refine skip_ (w1 := ?_) (by rfl) rfl ?_ ?_
 rotate_left
 ·go_simp
  rfl
 refine hK.out _ _ ?_
 clear hK K
 refine done_ (done_of HT_.out (by kernel_rfl)) ?_
 try go_wp2
 refine bodyPost_ret (results_cc rfl _ _ gb269 gb270 37 37 #[.int .u64 t292, .int .u64 t293, .int .u64 t294, .int .i64 t295, .int .i64 t296, .bool t297] #[.int .u64 t310, .int .u64 t311, .int .u64 t312, .int .i64 t313, .int .i64 t314, .bool t315] (0, 0) (0, 0) _ _ rfl (by (iterate 6 ((with_reducible repeat (first | refine blk_drewN ?_ _ | refine blk_drew ?_ | refine blk_alloc ?_ _)); refine blk_far ?_ NB269_270.out _)); (with_reducible repeat (first | refine blk_drewN ?_ _ | refine blk_drew ?_ | refine blk_alloc ?_ _)); refine blk_put (cs := #[.int .u64 t292, .int .u64 t293, .int .u64 t294, .int .i64 t295, .int .i64 t296, .bool t285]) ?_ 5 _ rfl; (with_reducible repeat (first | refine blk_drewN ?_ _ | refine blk_drew ?_ | refine blk_alloc ?_ _)); refine blk_put (cs := #[.int .u64 t292, .int .u64 t293, .int .u64 t294, .int .i64 t295, .int .i64 t284, .bool t285]) ?_ 4 _ rfl; (with_reducible repeat (first | refine blk_drewN ?_ _ | refine blk_drew ?_ | refine blk_alloc ?_ _)); refine blk_put (cs := #[.int .u64 t292, .int .u64 t293, .int .u64 t294, .int .i64 t283, .int .i64 t284, .bool t285]) ?_ 3 _ rfl; (with_reducible repeat (first | refine blk_drewN ?_ _ | refine blk_drew ?_ | refine blk_alloc ?_ _)); refine blk_put (cs := #[.int .u64 t292, .int .u64 t293, .int .u64 t282, .int .i64 t283, .int .i64 t284, .bool t285]) ?_ 2 _ rfl; (with_reducible repeat (first | refine blk_drewN ?_ _ | refine blk_drew ?_ | refine blk_alloc ?_ _)); refine blk_put (cs := #[.int .u64 t292, .int .u64 t281, .int .u64 t282, .int .i64 t283, .int .i64 t284, .bool t285]) ?_ 1 _ rfl; (with_reducible repeat (first | refine blk_drewN ?_ _ | refine blk_drew ?_ | refine blk_alloc ?_ _)); refine blk_put (cs := #[.int .u64 t280, .int .u64 t281, .int .u64 t282, .int .i64 t283, .int .i64 t284, .bool t285]) ?_ 0 _ rfl; (with_reducible repeat (first | refine blk_drewN ?_ _ | refine blk_drew ?_ | refine blk_alloc ?_ _)); exact BK269.out) Try.underlying37 rfl (by kernel_rfl) rfl (by (with_reducible repeat (first | refine blk_drewN ?_ _ | refine blk_drew ?_ | refine blk_alloc ?_ _)); refine blk_put (cs := #[.int .u64 t310, .int .u64 t311, .int .u64 t312, .int .i64 t313, .int .i64 t314, .bool false]) ?_ 5 _ rfl; (with_reducible repeat (first | refine blk_drewN ?_ _ | refine blk_drew ?_ | refine blk_alloc ?_ _)); refine blk_put (cs := #[.int .u64 t310, .int .u64 t311, .int .u64 t312, .int .i64 t313, .int .i64 0, .bool false]) ?_ 4 _ rfl; (with_reducible repeat (first | refine blk_drewN ?_ _ | refine blk_drew ?_ | refine blk_alloc ?_ _)); refine blk_put (cs := #[.int .u64 t310, .int .u64 t311, .int .u64 t312, .int .i64 0, .int .i64 0, .bool false]) ?_ 3 _ rfl; (with_reducible repeat (first | refine blk_drewN ?_ _ | refine blk_drew ?_ | refine blk_alloc ?_ _)); refine blk_put (cs := #[.int .u64 t310, .int .u64 t311, .int .u64 0, .int .i64 0, .int .i64 0, .bool false]) ?_ 2 _ rfl; (with_reducible repeat (first | refine blk_drewN ?_ _ | refine blk_drew ?_ | refine blk_alloc ?_ _)); refine blk_put (cs := #[.int .u64 t310, .int .u64 0, .int .u64 0, .int .i64 0, .int .i64 0, .bool false]) ?_ 1 _ rfl; (with_reducible repeat (first | refine blk_drewN ?_ _ | refine blk_drew ?_ | refine blk_alloc ?_ _)); refine blk_put (cs := #[.int .u64 0, .int .u64 0, .int .u64 0, .int .i64 0, .int .i64 0, .bool false]) ?_ 0 _ rfl; (iterate 6 ((with_reducible repeat (first | refine blk_drewN ?_ _ | refine blk_drew ?_ | refine blk_alloc ?_ _)); refine blk_far ?_ NB270_269.out _)); (with_reducible repeat (first | refine blk_drewN ?_ _ | refine blk_drew ?_ | refine blk_alloc ?_ _)); exact BK270.out) Try.underlying37 rfl (by kernel_rfl)) rfl ?_
 exact ur (uc HB.out)

end Go.Proofs.Ytlbfeklpncoccaa.P
