/- What functions of the program, and of its laws, give, each proved of its code by a walk; no condition. -/
import Derived.Test.YtlbfeklpncoccaaKTableLessPx0
import Derived.Test.YtlbfeklpncoccaaKTableLessPx1
import Derived.Test.YtlbfeklpncoccaaKTableLessPy0
import Derived.Test.YtlbfeklpncoccaaKTableLessPx4
import Derived.Test.YtlbfeklpncoccaaKTableLessPx6
import Derived.Test.YtlbfeklpncoccaaKTableLessPx7
import Derived.Test.YtlbfeklpncoccaaKTableLessPx17
import Derived.Test.YtlbfeklpncoccaaKTableLessPx21
import Derived.Test.YtlbfeklpncoccaaKTableLessSq
import Derived.Test.YtlbfeklpncoccaaKTableLessUsh
import Derived.Test.YtlbfeklpncoccaaKTableLessUs4
namespace Go.Proofs.Ytlbfeklpncoccaa.P
open Go.RowKit Go.Proofs.YtlbfeklpncoccaaW.PrintWords Go.Proofs.YtlbfeklpncoccaaW.PrintLast Go.Proofs.YtlbfeklpncoccaaW.PrintMore
attribute [local go_sem] max2_int min2_int max_two min_two max_three min_three max_four min_four   -- for this text's walks alone
set_option linter.unusedVariables false
set_option linter.unusedSimpArgs false

theorem goesM_ {P : Program} {ops : Array Oper} {Q : Exit → Act → World → Prop} {oi : Oper} {N : Option Tmp} {a : Act} {w : World} {K : Act → World → Prop} {f : FuncId} {fn : Func} {r : Operand} {T : TypeId} {v v' : Value} {name : String} {as_ : Array Operand} {ts : Array TypeId}
    (hm : (method (P.types.size + Made.depth) T v name).run P w = .ok (f, v') w) (hf : P.funcs[f]? = some fn) (hname : (fn.name == "runtime.NumGoroutine") = false) (hb : fn.body.isSome = true) (args : Array Value)
    (hw : Region.wanted oi (yielded ops a.tmps) = true) (hN : oi.dst = N) (hop : oi.op = .call { callee := .invoke r name, args := as_, argTypes := ts }) (hr : a.eval r = .iface T v) (hargs : #[v'] ++ as_.map a.eval = args)
    (h : Calls P f args w fun e w' => ∃ v, e = .returned v ∧ K (a.put N v) w') : if Region.wanted oi (yielded ops a.tmps) = true then Oper.wp P oi a w K Q else K (a.put N undef) w := by
  refine call_ f args hw hN ?_ h
  have he := enters_ hf hname hb args w
  have h0 : (#[Value.iface T v] ++ as_.map a.eval)[0]? = some (Value.iface T v) := by rw [Array.getElem?_append_left (by simp)]; rfl
  have h1 : (#[Value.iface T v] ++ as_.map a.eval).extract 1 (#[Value.iface T v] ++ as_.map a.eval).size = as_.map a.eval := by
    rw [Array.extract_append]; simp
  unfold execOp
  simp only [hop, resolve, invoke, callMethod, hr, pure_bind, h0, h1, Sem.run_bind, run_program]
  simp [Result.andThen, hm, hargs, he]
theorem caps_entry (x0 : Int) (x1 : Int) (x2 : Int) (x3 : Int) (x4 : Int) (x5 : Bool) (x6 : Int) (x7 : Int) (x8 : Int) (x9 : Int) (x10 : Int) (x11 : Bool) (w : World) : (method (Try.prog.types.size + Made.depth) 78 (.agg #[.int .u64 x0, .int .u64 x1, .int .u64 x2, .int .i64 x3, .int .i64 x4, .bool x5, .int .u64 x6, .int .u64 x7, .int .u64 x8, .int .i64 x9, .int .i64 x10, .bool x11]) "curtilage/table.caps").run Try.prog w = .ok (82, .agg #[.int .u64 x0, .int .u64 x1, .int .u64 x2, .int .i64 x3, .int .i64 x4, .bool x5, .int .u64 x6, .int .u64 x7, .int .u64 x8, .int .i64 x9, .int .i64 x10, .bool x11]) w := by kernel_rfl
theorem capsnil_entry (x0 : Int) (x1 : Int) (x2 : Int) (x3 : Int) (x4 : Int) (x5 : Bool) (x6 : Int) (x7 : Int) (x8 : Int) (x9 : Int) (x10 : Int) (x11 : Bool) (w : World) : (nilAhead 233 78 (.agg #[.int .u64 x0, .int .u64 x1, .int .u64 x2, .int .i64 x3, .int .i64 x4, .bool x5, .int .u64 x6, .int .u64 x7, .int .u64 x8, .int .i64 x9, .int .i64 x10, .bool x11]) "curtilage/table.caps").run Try.prog w = .ok (some false) w := by kernel_rfl
theorem caps_bytes (x0 : Int) (x1 : Int) (x2 : Int) (x3 : Int) (x4 : Int) (x5 : Bool) (w : World) : (method (Try.prog.types.size + Made.depth) 80 (.agg #[.int .u64 x0, .int .u64 x1, .int .u64 x2, .int .i64 x3, .int .i64 x4, .bool x5]) "curtilage/table.caps").run Try.prog w = .ok (80, .agg #[.int .u64 x0, .int .u64 x1, .int .u64 x2, .int .i64 x3, .int .i64 x4, .bool x5]) w := by kernel_rfl
theorem capsnil_bytes (x0 : Int) (x1 : Int) (x2 : Int) (x3 : Int) (x4 : Int) (x5 : Bool) (w : World) : (nilAhead 233 80 (.agg #[.int .u64 x0, .int .u64 x1, .int .u64 x2, .int .i64 x3, .int .i64 x4, .bool x5]) "curtilage/table.caps").run Try.prog w = .ok (some false) w := by kernel_rfl
theorem caps_none  (w : World) : (method (Try.prog.types.size + Made.depth) 74 (.agg #[]) "curtilage/table.caps").run Try.prog w = .ok (78, .agg #[]) w := by kernel_rfl
theorem capsnil_none  (w : World) : (nilAhead 233 74 (.agg #[]) "curtilage/table.caps").run Try.prog w = .ok (some false) w := by kernel_rfl
attribute [local go_sem high] capsnil_entry capsnil_bytes capsnil_none
def table_Slot.f (k : Nat) (l0 : List (S28)) (l1 : List Int) (l2 : List Int) (a3_0 : Int) (a3_1 : Int) (a3_2 : Int) (a3_3 : Int) : Option ((List (S37)) × Int) := if 0 ≤ a3_0 then (if a3_0 < (l0.length : Int) then (if 0 ≤ a3_1 then (if a3_1 < (((rd_T28 l0 a3_0).f4).length : Int) then (if a3_2 ≥ 0 then (if 0 ≤ a3_2 then (if a3_2 < (l0.length : Int) then (if 0 ≤ a3_3 then (if a3_3 < (((rd_T28 l0 a3_2).f3).length : Int) then (if ((rd_T35 ((rd_T28 l0 a3_2).f3) a3_3).f4) = 1 then (if a3_2 < (l1.length : Int) then (if a3_2 < (l2.length : Int) then ((table_Entry.f k ((rd_T28 l0 a3_2).f0) ((rd_T28 l0 a3_2).f1) ((rd_T28 l0 a3_2).f2) ((rd_T28 l0 a3_2).f3) ((rd_T28 l0 a3_2).f4) ((rd_T28 l0 a3_2).f5) ((rd_T28 l0 a3_2).f6) (rd l1 a3_2) a3_3 (rd l2 a3_2)).bind fun bt603 => (if 0 ≤ ((rd_T72 ((rd_T28 l0 a3_0).f4) a3_1).f1) then (if ((rd_T72 ((rd_T28 l0 a3_0).f4) a3_1).f1) < (((rd_T28 l0 a3_0).f3).length : Int) then ((table_entry_caps.f bt603.1 bt603.2.1 bt603.2.2.1 bt603.2.2.2.1 bt603.2.2.2.2.1 bt603.2.2.2.2.2.1 bt603.2.2.2.2.2.2.1 bt603.2.2.2.2.2.2.2.1 bt603.2.2.2.2.2.2.2.2.1 bt603.2.2.2.2.2.2.2.2.2.1 bt603.2.2.2.2.2.2.2.2.2.2.1 bt603.2.2.2.2.2.2.2.2.2.2.2 (((rd_T35 ((rd_T28 l0 a3_0).f3) ((rd_T72 ((rd_T28 l0 a3_0).f4) a3_1).f1)).f4) == 1)).bind fun t619 => (if a3_0 < (l1.length : Int) then (some (t619, IntKind.u64.wrap ((rd l1 a3_0) + ((rd_T72 ((rd_T28 l0 a3_0).f4) a3_1).f0)))) else (none))) else (none)) else (none))) else (none)) else (none)) else (if a3_2 < (l1.length : Int) then ((table_Data.f k ((rd_T28 l0 a3_2).f0) ((rd_T28 l0 a3_2).f1) ((rd_T28 l0 a3_2).f2) ((rd_T28 l0 a3_2).f3) ((rd_T28 l0 a3_2).f4) ((rd_T28 l0 a3_2).f5) ((rd_T28 l0 a3_2).f6) (rd l1 a3_2) a3_3).bind fun bt624 => (if 0 ≤ ((rd_T72 ((rd_T28 l0 a3_0).f4) a3_1).f1) then (if ((rd_T72 ((rd_T28 l0 a3_0).f4) a3_1).f1) < (((rd_T28 l0 a3_0).f3).length : Int) then ((table_bytes_caps.f bt624.1 bt624.2.1 bt624.2.2.1 bt624.2.2.2.1 bt624.2.2.2.2.1 bt624.2.2.2.2.2 (((rd_T35 ((rd_T28 l0 a3_0).f3) ((rd_T72 ((rd_T28 l0 a3_0).f4) a3_1).f1)).f4) == 1)).bind fun t632 => (if a3_0 < (l1.length : Int) then (some (t632, IntKind.u64.wrap ((rd l1 a3_0) + ((rd_T72 ((rd_T28 l0 a3_0).f4) a3_1).f0)))) else (none))) else (none)) else (none))) else (none))) else (none)) else (none)) else (none)) else (none)) else (if 0 ≤ ((rd_T72 ((rd_T28 l0 a3_0).f4) a3_1).f1) then (if ((rd_T72 ((rd_T28 l0 a3_0).f4) a3_1).f1) < (((rd_T28 l0 a3_0).f3).length : Int) then ((table_none_caps.f 0 (((rd_T35 ((rd_T28 l0 a3_0).f3) ((rd_T72 ((rd_T28 l0 a3_0).f4) a3_1).f1)).f4) == 1)).bind fun t638 => (if a3_0 < (l1.length : Int) then (some (t638, IntKind.u64.wrap ((rd l1 a3_0) + ((rd_T72 ((rd_T28 l0 a3_0).f4) a3_1).f0)))) else (none))) else (none)) else (none))) else (none)) else (none)) else (none)) else (none)
theorem table_Slot.mono : ∀ a0 a1 a2 a3 a4 a5 a6 k, LeO (table_Slot.f k a0 a1 a2 a3 a4 a5 a6) (table_Slot.f (k + 1) a0 a1 a2 a3 a4 a5 a6) := by
  intro a0 a1 a2 a3 a4 a5 a6 k
  unfold table_Slot.f
  repeat' first
      | (with_reducible exact table_Data.mono _ _ _ _ _ _ _ _ _ _)
      | (with_reducible exact table_Entry.mono _ _ _ _ _ _ _ _ _ _ _)
      | (with_reducible exact LeO.refl _)
      | (with_reducible exact LeO.none _)
      | (with_reducible refine LeO.ite ?_ ?_)
      | (with_reducible refine LeO.bind ?_ (fun _ => ?_))
      | exact table_Data.mono _ _ _ _ _ _ _ _ _ _
      | exact table_Entry.mono _ _ _ _ _ _ _ _ _ _ _
      | exact LeO.none _
      | refine LeO.ite ?_ ?_
      | refine LeO.bind ?_ (fun _ => ?_)
def table_Slot.T1 : Bool × List (List Nat × List Nat) := (true, [([], []), ([], []), ([1], [1]), ([0, 2], [0, 2]), ([3], [3]), ([4], [4]), ([], []), ([6], [6]), ([5, 7], [5, 7]), ([8], [8]), ([], []), ([10, 9, 0, 1, 2, 3, 4, 5, 6, 7, 8, 9, 10], [9, 10])])
def table_Slot.B1 : List Nat := [0, 0, 2, 7, 15, 31, 0, 64, 255, 511, 0, 2047]
theorem table_Slot.tab1 : rtab .any (opsOf Try.f12 1) = table_Slot.T1 := by kernel_rfl
theorem table_Slot.bits1 : waitsOk table_Slot.T1.2 table_Slot.B1 = true := by kernel_rfl
def table_Slot.T6 : Bool × List (List Nat × List Nat) := (true, [([], []), ([], []), ([], []), ([2], [2]), ([1, 3], [1, 3]), ([4], [4]), ([], []), ([6], [6]), ([], []), ([], []), ([9], [9]), ([8, 10], [8, 10]), ([11], [11]), ([0, 5, 7, 12], [0, 5, 7, 12]), ([13], [13]), ([14], [14]), ([14], [14]), ([], []), ([], []), ([17, 15, 13, 0, 1, 2, 3, 4, 5, 6, 7, 8, 9, 10, 11, 12, 13, 14, 15, 17, 18], [15, 17]), ([18, 16, 19, 0, 1, 2, 3, 4, 5, 6, 7, 8, 9, 10, 11, 12, 13, 14, 15, 16, 17, 18, 19], [16, 18])])
def table_Slot.B6 : List Nat := [0, 0, 0, 4, 14, 30, 0, 64, 0, 0, 512, 1792, 3840, 8191, 16383, 32767, 32767, 0, 0, 458751, 1048575]
theorem table_Slot.tab6 : rtab .any (opsOf Try.f12 6) = table_Slot.T6 := by kernel_rfl
theorem table_Slot.bits6 : waitsOk table_Slot.T6.2 table_Slot.B6 = true := by kernel_rfl
def table_Slot.T8 : Bool × List (List Nat × List Nat) := (true, [([], []), ([], []), ([], []), ([2], [2]), ([1, 3], [1, 3]), ([4], [4]), ([], []), ([6], [6]), ([0, 5, 7], [0, 5, 7]), ([8], [8]), ([9], [9]), ([10, 8, 0, 1, 2, 3, 4, 5, 6, 7, 8, 9, 10], [10])])
def table_Slot.B8 : List Nat := [0, 0, 0, 4, 14, 30, 0, 64, 255, 511, 1023, 2047]
theorem table_Slot.tab8 : rtab .any (opsOf Try.f12 8) = table_Slot.T8 := by kernel_rfl
theorem table_Slot.bits8 : waitsOk table_Slot.T8.2 table_Slot.B8 = true := by kernel_rfl
def table_Slot.T9 : Bool × List (List Nat × List Nat) := (true, [([], []), ([], []), ([], []), ([2], [2]), ([1, 3], [1, 3]), ([4], [4]), ([5], [5]), ([], []), ([7], [7]), ([6, 8], [6, 8]), ([9], [9]), ([10], [10]), ([11], [11]), ([0], [0]), ([13], [13]), ([0, 13, 14], [0]), ([15, 12], [12, 15]), ([], []), ([], []), ([18], [18]), ([17, 19], [17, 19]), ([20], [20]), ([], []), ([22], [22]), ([21, 23], [21, 23]), ([16, 16, 0, 1, 2, 3, 4, 5, 6, 7, 8, 9, 10, 11, 12, 13, 14, 15, 16], [16]), ([24, 25, 0, 1, 2, 3, 4, 5, 6, 7, 8, 9, 10, 11, 12, 13, 14, 15, 16, 17, 18, 19, 20, 21, 22, 23, 24, 25], [24])])
def table_Slot.B9 : List Nat := [0, 0, 0, 4, 14, 30, 62, 0, 128, 510, 1022, 2046, 4094, 1, 8193, 24577, 65535, 0, 0, 262144, 917504, 1966080, 0, 4194304, 16646144, 131071, 67108863]
theorem table_Slot.tab9 : rtab .any (opsOf Try.f12 9) = table_Slot.T9 := by kernel_rfl
theorem table_Slot.bits9 : waitsOk table_Slot.T9.2 table_Slot.B9 = true := by kernel_rfl
set_option maxHeartbeats 8000000 in
set_option maxRecDepth 100000 in
theorem table_Slot.calls (k : Nat) (A0 : Option Addr) (c0 : Nat) (l0 : List (S28)) (A1 : Option Addr) (c1 : Nat) (l1 : List Int) (A2 : Option Addr) (c2 : Nat) (l2 : List Int) (a3_0 : Int) (a3_1 : Int) (a3_2 : Int) (a3_3 : Int) (r1 : List (S37)) (r2 : Int) (w : World) (hr0 : Kd.C k28 w A0 l0.length l0) (hc0 : l0.length ≤ c0) (hr1 : Kd.C (Kd.int .u64) w A1 l1.length l1) (hc1 : l1.length ≤ c1) (hr2 : Kd.C (Kd.int .i64) w A2 l2.length l2) (hc2 : l2.length ≤ c2) (h : table_Slot.f k l0 l1 l2 a3_0 a3_1 a3_2 a3_3 = some (r1, r2)) :
  Calls Try.prog 12 #[.slice A0 l0.length c0, .slice A1 l1.length c1, .slice A2 l2.length c2, .agg #[.int .i64 a3_0, .int .i64 a3_1, .int .i64 a3_2, .int .i64 a3_3]] w fun e w' => ∃ v0_ : Value, e = .returned (.tuple #[v0_, .int .u64 r2]) ∧ Kd.R k37 37 w' w.heap.size (fun _ => True) v0_ r1 ∧ Below w.heap.size w w' := by
 have hu44 := Try.underlying44
 have hu72 := Try.underlying72
 have hu28 := Try.underlying28
 have hu37 := Try.underlying37
 have hu78 := Try.underlying78
 have hu80 := Try.underlying80
 have HR0 := am hr0
 have HC0 := am hc0
 clear hr0 hc0
 have HR1 := am hr1
 have HC1 := am hc1
 clear hr1 hc1
 have HR2 := am hr2
 have HC2 := am hc2
 clear hr2 hc2
 have HB := am (Below.refl w.heap.size w)
 have H : (if 0 ≤ a3_0 then (if a3_0 < (l0.length : Int) then (if 0 ≤ a3_1 then (if a3_1 < (((rd_T28 l0 a3_0).f4).length : Int) then (if a3_2 ≥ 0 then (if 0 ≤ a3_2 then (if a3_2 < (l0.length : Int) then (if 0 ≤ a3_3 then (if a3_3 < (((rd_T28 l0 a3_2).f3).length : Int) then (if ((rd_T35 ((rd_T28 l0 a3_2).f3) a3_3).f4) = 1 then (if a3_2 < (l1.length : Int) then (if a3_2 < (l2.length : Int) then ((table_Entry.f k ((rd_T28 l0 a3_2).f0) ((rd_T28 l0 a3_2).f1) ((rd_T28 l0 a3_2).f2) ((rd_T28 l0 a3_2).f3) ((rd_T28 l0 a3_2).f4) ((rd_T28 l0 a3_2).f5) ((rd_T28 l0 a3_2).f6) (rd l1 a3_2) a3_3 (rd l2 a3_2)).bind fun bt603 => (if 0 ≤ ((rd_T72 ((rd_T28 l0 a3_0).f4) a3_1).f1) then (if ((rd_T72 ((rd_T28 l0 a3_0).f4) a3_1).f1) < (((rd_T28 l0 a3_0).f3).length : Int) then ((table_entry_caps.f bt603.1 bt603.2.1 bt603.2.2.1 bt603.2.2.2.1 bt603.2.2.2.2.1 bt603.2.2.2.2.2.1 bt603.2.2.2.2.2.2.1 bt603.2.2.2.2.2.2.2.1 bt603.2.2.2.2.2.2.2.2.1 bt603.2.2.2.2.2.2.2.2.2.1 bt603.2.2.2.2.2.2.2.2.2.2.1 bt603.2.2.2.2.2.2.2.2.2.2.2 (((rd_T35 ((rd_T28 l0 a3_0).f3) ((rd_T72 ((rd_T28 l0 a3_0).f4) a3_1).f1)).f4) == 1)).bind fun t619 => (if a3_0 < (l1.length : Int) then (some (t619, IntKind.u64.wrap ((rd l1 a3_0) + ((rd_T72 ((rd_T28 l0 a3_0).f4) a3_1).f0)))) else (none))) else (none)) else (none))) else (none)) else (none)) else (if a3_2 < (l1.length : Int) then ((table_Data.f k ((rd_T28 l0 a3_2).f0) ((rd_T28 l0 a3_2).f1) ((rd_T28 l0 a3_2).f2) ((rd_T28 l0 a3_2).f3) ((rd_T28 l0 a3_2).f4) ((rd_T28 l0 a3_2).f5) ((rd_T28 l0 a3_2).f6) (rd l1 a3_2) a3_3).bind fun bt624 => (if 0 ≤ ((rd_T72 ((rd_T28 l0 a3_0).f4) a3_1).f1) then (if ((rd_T72 ((rd_T28 l0 a3_0).f4) a3_1).f1) < (((rd_T28 l0 a3_0).f3).length : Int) then ((table_bytes_caps.f bt624.1 bt624.2.1 bt624.2.2.1 bt624.2.2.2.1 bt624.2.2.2.2.1 bt624.2.2.2.2.2 (((rd_T35 ((rd_T28 l0 a3_0).f3) ((rd_T72 ((rd_T28 l0 a3_0).f4) a3_1).f1)).f4) == 1)).bind fun t632 => (if a3_0 < (l1.length : Int) then (some (t632, IntKind.u64.wrap ((rd l1 a3_0) + ((rd_T72 ((rd_T28 l0 a3_0).f4) a3_1).f0)))) else (none))) else (none)) else (none))) else (none))) else (none)) else (none)) else (none)) else (none)) else (if 0 ≤ ((rd_T72 ((rd_T28 l0 a3_0).f4) a3_1).f1) then (if ((rd_T72 ((rd_T28 l0 a3_0).f4) a3_1).f1) < (((rd_T28 l0 a3_0).f3).length : Int) then ((table_none_caps.f 0 (((rd_T35 ((rd_T28 l0 a3_0).f3) ((rd_T72 ((rd_T28 l0 a3_0).f4) a3_1).f1)).f4) == 1)).bind fun t638 => (if a3_0 < (l1.length : Int) then (some (t638, IntKind.u64.wrap ((rd l1 a3_0) + ((rd_T72 ((rd_T28 l0 a3_0).f4) a3_1).f0)))) else (none))) else (none)) else (none))) else (none)) else (none)) else (none)) else (none)) = some (r1, r2) := h
 clear h
 obtain ⟨c5, H⟩ := ic H
 have c5b0 : decide (0 ≤ a3_0) = true := decide_eq_true c5
 clear c5
 obtain ⟨c6, H⟩ := ic H
 have c6b0 : decide (a3_0 < (l0.length : Int)) = true := decide_eq_true c6
 clear c6
 obtain ⟨c7, H⟩ := ic H
 have c7b0 : decide (0 ≤ a3_1) = true := decide_eq_true c7
 clear c7
 obtain ⟨c8, H⟩ := ic H
 have c8b0 : decide (a3_1 < (((rd_T28 l0 a3_0).f4).length : Int)) = true := decide_eq_true c8
 clear c8
 by_cases c9 : a3_2 ≥ 0
 ·rw [if_pos c9] at H
  have c9b0 : decide (0 ≤ a3_2) = true := decide_eq_true c9
  clear c9
  obtain ⟨c10, H⟩ := ic H
  have c10b0 : decide (0 ≤ a3_2) = true := decide_eq_true c10
  clear c10
  obtain ⟨c11, H⟩ := ic H
  have c11b0 : decide (a3_2 < (l0.length : Int)) = true := decide_eq_true c11
  clear c11
  obtain ⟨c12, H⟩ := ic H
  have c12b0 : decide (0 ≤ a3_3) = true := decide_eq_true c12
  clear c12
  obtain ⟨c13, H⟩ := ic H
  have c13b0 : decide (a3_3 < (((rd_T28 l0 a3_2).f3).length : Int)) = true := decide_eq_true c13
  clear c13
  by_cases c14 : ((rd_T35 ((rd_T28 l0 a3_2).f3) a3_3).f4) = 1
  ·rw [if_pos c14] at H
   have c14b0 := beq_iff_eq.mpr c14
   have c14b1 := bne_eq_false_iff_eq.mpr c14
   clear c14
   obtain ⟨c15, H⟩ := ic H
   have c15b0 : decide (a3_2 < (l1.length : Int)) = true := decide_eq_true c15
   clear c15
   obtain ⟨c16, H⟩ := ic H
   have c16b0 : decide (a3_2 < (l2.length : Int)) = true := decide_eq_true c16
   clear c16
   replace H := Option.bind_eq_some_iff.mp H
   obtain ⟨⟨t603, t604, t605, t606, t607, t608, t609, t610, t611, t612, t613, t614⟩, A170, H⟩ := H
   replace H : (if 0 ≤ ((rd_T72 ((rd_T28 l0 a3_0).f4) a3_1).f1) then (if ((rd_T72 ((rd_T28 l0 a3_0).f4) a3_1).f1) < (((rd_T28 l0 a3_0).f3).length : Int) then ((table_entry_caps.f t603 t604 t605 t606 t607 t608 t609 t610 t611 t612 t613 t614 (((rd_T35 ((rd_T28 l0 a3_0).f3) ((rd_T72 ((rd_T28 l0 a3_0).f4) a3_1).f1)).f4) == 1)).bind fun t619 => (if a3_0 < (l1.length : Int) then (some (t619, IntKind.u64.wrap ((rd l1 a3_0) + ((rd_T72 ((rd_T28 l0 a3_0).f4) a3_1).f0)))) else (none))) else (none)) else (none)) = some (r1, r2) := H
   have A17 := am A170
   clear A170
   obtain ⟨c18, H⟩ := ic H
   have c18b0 : decide (0 ≤ ((rd_T72 ((rd_T28 l0 a3_0).f4) a3_1).f1)) = true := decide_eq_true c18
   clear c18
   obtain ⟨c19, H⟩ := ic H
   have c19b0 : decide (((rd_T72 ((rd_T28 l0 a3_0).f4) a3_1).f1) < (((rd_T28 l0 a3_0).f3).length : Int)) = true := decide_eq_true c19
   clear c19
   replace H := Option.bind_eq_some_iff.mp H
   obtain ⟨t619, A200, H⟩ := H
   replace H : (if a3_0 < (l1.length : Int) then (some (t619, IntKind.u64.wrap ((rd l1 a3_0) + ((rd_T72 ((rd_T28 l0 a3_0).f4) a3_1).f0)))) else (none)) = some (r1, r2) := H
   have A20 := am A200
   clear A200
   obtain ⟨c21, H⟩ := ic H
   have c21b0 : decide (a3_0 < (l1.length : Int)) = true := decide_eq_true c21
   clear c21
   simp only [Option.some.injEq, Prod.mk.injEq] at H
   obtain ⟨rfl, rfl⟩ := H
   go_enter Try.func12, Try.ntmps12
   try go_wp2_with (first | ((with_reducible refine gate_dst (N := 7) rfl ?_); refine box_event ?hg (N := 7) ?hd (cs := #[.int .i64 a3_0, .int .i64 a3_1, .int .i64 a3_2, .int .i64 a3_3]) (t := 44) ?hr ?_; (case hd => rfl); (case hg => rfl); (case hr => first | (go_simp; done) | (go_simp; rfl)); intro gb594 hg w22 hbox hb; have n0_ := bs HB hb; have n1_ := am (hbox); have n2_ := nz HB hg; have n3_ := nz HB hg; revert n0_ n1_ n2_ n3_; clear HB; intro HB BK594 GW594 GE594; clear hb hbox hg))
   have n0_ := am (blk_drew BK594.out)
   have n1_ := am (below_drew1 HB.out)
   revert n0_ n1_
   clear BK594 HB
   intro BK594 HB
   have p595 : 0 ≤ (a3_0 : Int) := ud
   have q595 : a3_0 < (l0.length : Int) := ud
   obtain ⟨ad595, A595_1, c595_1, A595_2, c595_2, A595_3, c595_3, A595_4, c595_4, A595_5, c595_5, A595_6, c595_6, e595, hx595_0, hx595_1, hx595_2, hx595_3, hx595_4, hx595_5, hx595_6, hl595_1, hi595_1, hl595_2, hi595_2, hl595_3, hi595_3, hl595_4, hi595_4, hl595_5, hi595_5, hl595_6, hi595_6⟩ := at_T28 HR0.out a3_0 p595 q595
   have hw595_6 := hx595_6
   have hw595_5 := hx595_5
   have hw595_4 := hx595_4
   have hw595_3 := hx595_3
   have hw595_2 := hx595_2
   have hw595_1 := hx595_1
   have hw595_0 := hx595_0
   cases e595
   replace hx595_0 := bcel HB hx595_0
   replace hx595_1 := bcel HB hx595_1
   replace hx595_2 := bcel HB hx595_2
   replace hx595_3 := bcel HB hx595_3
   replace hx595_4 := bcel HB hx595_4
   replace hx595_5 := bcel HB hx595_5
   replace hx595_6 := bcel HB hx595_6
   have HR595_1 := am hi595_1
   have HC595_1 := am hl595_1
   clear hi595_1 hl595_1
   have HR595_2 := am hi595_2
   have HC595_2 := am hl595_2
   clear hi595_2 hl595_2
   have HR595_3 := am hi595_3
   have HC595_3 := am hl595_3
   clear hi595_3 hl595_3
   have HR595_4 := am hi595_4
   have HC595_4 := am hl595_4
   clear hi595_4 hl595_4
   have HR595_5 := am hi595_5
   have HC595_5 := am hl595_5
   clear hi595_5 hl595_5
   have HR595_6 := am hi595_6
   have HC595_6 := am hl595_6
   clear hi595_6 hl595_6
   replace p595 := eq_true p595
   replace q595 := eq_true q595
   have p596 : 0 ≤ (a3_1 : Int) := ud
   have q596 : a3_1 < (((rd_T28 l0 a3_0).f4).length : Int) := ud
   obtain ⟨ad596, e596, hx596_0, hx596_1⟩ := at_T72 HR595_4.out a3_1 p596 q596
   have hw596_1 := hx596_1
   have hw596_0 := hx596_0
   cases e596
   replace hx596_0 := bcel HB hx596_0
   replace hx596_1 := bcel HB hx596_1
   replace p596 := eq_true p596
   replace q596 := eq_true q596
   refine sr 12 [] (hB4 BK594 (hA (bcel HB hw595_0 :) (hA (bcel HB hw595_1 :) (hA (bcel HB hw595_2 :) (hA (bcel HB hw595_3 :) (hA (bcel HB hw595_4 :) (hA (bcel HB hw595_5 :) (hA (bcel HB hw595_6 :) (hA (bcel HB hw596_0 :) (hZ (bcel HB hw596_1 :))))))))))) (fun hHeld => ?_); refine with_tabW table_Slot.tab1 table_Slot.bits1 (fun HT_ HW_ => ?_)
   generalize w22.drew = w23 at BK594 HB HR595_1 HR595_2 HR595_3 HR595_4 HR595_5 HR595_6 hx595_0 hx595_1 hx595_2 hx595_3 hx595_4 hx595_5 hx595_6 hx596_0 hx596_1 hHeld ⊢
   refine pv 0 15 (bA 12 1) HT_ ?_
   refine pv 1 16 (bA 12 3) HT_ ?_
   refine pv 6 21 (bA 12 67) HT_ ?_
   refine tv 2 17 (bA 12 71) HT_ HW_ hHeld ?_ (hy := by rintro w' ⟨s0, s1, s2, s3, s4, s5, s6, s7, s8, s9, s10, s11, s12⟩; go_simp; with_reducible rfl)
   refine pv 3 18 (bA 12 79) HT_ ?_
   refine pv 4 19 (bA 12 95) HT_ ?_
   refine tv 5 20 (bA 12 127) HT_ HW_ hHeld ?_ (hy := by rintro w' ⟨s0, s1, s2, s3, s4, s5, s6, s7, s8, s9, s10, s11, s12⟩; go_simp; with_reducible rfl)
   refine tv 7 22 (bA 12 255) HT_ HW_ hHeld ?_ (hy := by rintro w' ⟨s0, s1, s2, s3, s4, s5, s6, s7, s8, s9, s10, s11, s12⟩; go_simp; with_reducible rfl)
   refine pv 8 23 (bA 12 511) HT_ ?_
   refine tv 9 24 (bA 12 1023) HT_ HW_ hHeld ?_ (hy := by rintro w' ⟨s0, s1, s2, s3, s4, s5, s6, s7, s8, s9, s10, s11, s12⟩; go_simp; with_reducible rfl)
   refine one_ (i := 10) (N := some 10) (bA 12 2047) rfl rfl (one_of HT_.out (by kernel_rfl)) (by decide) (fun K hK => ?_)
   refine box_step ?hg (N := 10) ?hd (cs := #[.int .u64 0, .int .i64 0]) (t := 72) ?hr ?_; (case hd => rfl); (case hg => rfl); (case hr => first | (go_simp; done) | (go_simp; rfl))
   intro gb597 hg w24 hbox hb
   have n0_ := bw BK594 hb
   have n1_ := bs HB hb
   have n2_ := am (hbox)
   have n3_ := nz HB hg
   have n4_ := nz HB hg
   have n5_ := nl BK594 hg
   have n6_ := nr BK594 hg
   revert n0_ n1_ n2_ n3_ n4_ n5_ n6_
   clear BK594 HB
   intro BK594 HB BK597 GW597 GE597 NB594_597 NB597_594
   clear hb hbox hg
   refine hK.out _ _ ⟨cz BK594 0, cz BK594 1, cz BK594 2, cz BK594 3, (bcel HB hw595_0 :), (bcel HB hw595_1 :), (bcel HB hw595_2 :), (bcel HB hw595_3 :), (bcel HB hw595_4 :), (bcel HB hw595_5 :), (bcel HB hw595_6 :), (bcel HB hw596_0 :), (bcel HB hw596_1 :)⟩ (fun hHeld => ?_)
   clear hK K
   refine norm_ (a' := ?_) ?_ ?_
   rotate_left
   ·show Act.put _ (some 10) _ = _
    simp only [Act.put, List.setIfInBounds_toArray, List.set_cons_zero, List.set_cons_succ, i64_w, i32_w]
    rfl
   refine one_ (i := 11) (N := none) (bA 12 4095) rfl rfl (one_of HT_.out (by kernel_rfl)) (by decide) (fun K hK => ?_)
   have hs25 : w24.cell? ⟨gb597, 0, none⟩ = some (.int .u64 0) := cz BK597 0
   have hfs25 := fz BK597 0
   have hns25_0 := NB594_597.out
   have hms25_0 := NB597_594.out
   have hs26 : w24.cell? ⟨gb597, 1, none⟩ = some (.int .i64 0) := cz BK597 1
   have hfs26 := fz BK597 1
   have hns26_0 := NB594_597.out
   have hms26_0 := NB597_594.out
   refine skip_ (w1 := ?_) (by rfl) rfl ?_ ?_
   rotate_left
   ·go_simp
    rfl
   refine hK.out _ _ ⟨((cnf2 (NB594_597.out)).trans (hHeld.1)), ((cnf2 (NB594_597.out)).trans (hHeld.2.1)), ((cnf2 (NB594_597.out)).trans (hHeld.2.2.1)), ((cnf2 (NB594_597.out)).trans (hHeld.2.2.2.1)), ((cfar2 hw595_0 GW597.out).trans (hHeld.2.2.2.2.1)), ((cfar2 hw595_1 GW597.out).trans (hHeld.2.2.2.2.2.1)), ((cfar2 hw595_2 GW597.out).trans (hHeld.2.2.2.2.2.2.1)), ((cfar2 hw595_3 GW597.out).trans (hHeld.2.2.2.2.2.2.2.1)), ((cfar2 hw595_4 GW597.out).trans (hHeld.2.2.2.2.2.2.2.2.1)), ((cfar2 hw595_5 GW597.out).trans (hHeld.2.2.2.2.2.2.2.2.2.1)), ((cfar2 hw595_6 GW597.out).trans (hHeld.2.2.2.2.2.2.2.2.2.2.1)), ((cfar2 hw596_0 GW597.out).trans (hHeld.2.2.2.2.2.2.2.2.2.2.2.1)), ((cfar2 hw596_1 GW597.out).trans (hHeld.2.2.2.2.2.2.2.2.2.2.2.2))⟩ (fun hHeld => ?_)
   clear hK K
   refine done_ (done_of HT_.out (by kernel_rfl)) ?_
   have hnb27 := NB594_597.out
   have hnc27 := NB597_594.out
   obtain ⟨hcz28_0, hcz28_1, hcz28_2, hcz28_3, hfz28_0, hfz28_1, hfz28_2, hfz28_3⟩ := cl4 BK594
   have p598 : 0 ≤ (a3_2 : Int) := ud
   have q598 : a3_2 < (l0.length : Int) := ud
   obtain ⟨ad598, A598_1, c598_1, A598_2, c598_2, A598_3, c598_3, A598_4, c598_4, A598_5, c598_5, A598_6, c598_6, e598, hx598_0, hx598_1, hx598_2, hx598_3, hx598_4, hx598_5, hx598_6, hl598_1, hi598_1, hl598_2, hi598_2, hl598_3, hi598_3, hl598_4, hi598_4, hl598_5, hi598_5, hl598_6, hi598_6⟩ := at_T28 HR0.out a3_2 p598 q598
   obtain rfl : ad595 = ad598 := (by injection e598)
   have hn598_0 : ad595.block ≠ gb597 := Nat.ne_of_lt (Nat.lt_of_lt_of_le (by have := World.block_lt_of_cell? _ _ hx598_0; first | rwa [add_block] at this | exact this) GW597.out)
   have hn598_1 : ad595.block ≠ gb597 := Nat.ne_of_lt (Nat.lt_of_lt_of_le (by have := World.block_lt_of_cell? _ _ hx598_0; first | rwa [add_block] at this | exact this) GW597.out)
   replace hx598_0 := bcel HB hx598_0
   replace hx598_1 := bcel HB hx598_1
   replace hx598_2 := bcel HB hx598_2
   replace hx598_3 := bcel HB hx598_3
   replace hx598_4 := bcel HB hx598_4
   replace hx598_5 := bcel HB hx598_5
   replace hx598_6 := bcel HB hx598_6
   have HR598_1 := am hi598_1
   have HC598_1 := am hl598_1
   clear hi598_1 hl598_1
   have HR598_2 := am hi598_2
   have HC598_2 := am hl598_2
   clear hi598_2 hl598_2
   have HR598_3 := am hi598_3
   have HC598_3 := am hl598_3
   clear hi598_3 hl598_3
   have HR598_4 := am hi598_4
   have HC598_4 := am hl598_4
   clear hi598_4 hl598_4
   have HR598_5 := am hi598_5
   have HC598_5 := am hl598_5
   clear hi598_5 hl598_5
   have HR598_6 := am hi598_6
   have HC598_6 := am hl598_6
   clear hi598_6 hl598_6
   replace hx598_0 := (cne 0 hn598_0 (.int .u64 ((rd_T72 ((rd_T28 l0 a3_0).f4) a3_1).f0))).trans hx598_0
   replace hx598_1 := (cne 0 hn598_0 (.int .u64 ((rd_T72 ((rd_T28 l0 a3_0).f4) a3_1).f0))).trans hx598_1
   replace hx598_2 := (cne 0 hn598_0 (.int .u64 ((rd_T72 ((rd_T28 l0 a3_0).f4) a3_1).f0))).trans hx598_2
   replace hx598_3 := (cne 0 hn598_0 (.int .u64 ((rd_T72 ((rd_T28 l0 a3_0).f4) a3_1).f0))).trans hx598_3
   replace hx598_4 := (cne 0 hn598_0 (.int .u64 ((rd_T72 ((rd_T28 l0 a3_0).f4) a3_1).f0))).trans hx598_4
   replace hx598_5 := (cne 0 hn598_0 (.int .u64 ((rd_T72 ((rd_T28 l0 a3_0).f4) a3_1).f0))).trans hx598_5
   replace hx598_6 := (cne 0 hn598_0 (.int .u64 ((rd_T72 ((rd_T28 l0 a3_0).f4) a3_1).f0))).trans hx598_6
   replace hx598_0 := (cne 1 hn598_1 (.int .i64 ((rd_T72 ((rd_T28 l0 a3_0).f4) a3_1).f1))).trans hx598_0
   replace hx598_1 := (cne 1 hn598_1 (.int .i64 ((rd_T72 ((rd_T28 l0 a3_0).f4) a3_1).f1))).trans hx598_1
   replace hx598_2 := (cne 1 hn598_1 (.int .i64 ((rd_T72 ((rd_T28 l0 a3_0).f4) a3_1).f1))).trans hx598_2
   replace hx598_3 := (cne 1 hn598_1 (.int .i64 ((rd_T72 ((rd_T28 l0 a3_0).f4) a3_1).f1))).trans hx598_3
   replace hx598_4 := (cne 1 hn598_1 (.int .i64 ((rd_T72 ((rd_T28 l0 a3_0).f4) a3_1).f1))).trans hx598_4
   replace hx598_5 := (cne 1 hn598_1 (.int .i64 ((rd_T72 ((rd_T28 l0 a3_0).f4) a3_1).f1))).trans hx598_5
   replace hx598_6 := (cne 1 hn598_1 (.int .i64 ((rd_T72 ((rd_T28 l0 a3_0).f4) a3_1).f1))).trans hx598_6
   clear hn598_0 hn598_1
   replace p598 := eq_true p598
   replace q598 := eq_true q598
   try go_wp2_with (first | ((with_reducible refine gate_dst (N := 12) rfl ?_); refine box_event ?hg (N := 12) ?hd (cs := #[.string (⟨#[]⟩ : ByteArray), .slice none 0 0, .slice none 0 0, .slice none 0 0, .slice none 0 0, .slice none 0 0, .slice none 0 0]) (t := 28) ?hr ?_; (case hd => rfl); (case hg => rfl); (case hr => first | (go_simp; done) | (go_simp; rfl)); intro gb599 hg w29 hbox hb; have n0_ := am (blk_below (g := gb594) (o := .cells #[.int .i64 a3_0, .int .i64 a3_1, .int .i64 a3_2, .int .i64 a3_3] 44 (0, 0)) (by (iterate 2 ((with_reducible repeat (first | refine blk_drewN ?_ _ | refine blk_drew ?_ | refine blk_alloc ?_ _)); refine blk_far ?_ NB594_597.out _)); (with_reducible repeat (first | refine blk_drewN ?_ _ | refine blk_drew ?_ | refine blk_alloc ?_ _)); exact BK594.out) hb); have n1_ := am (blk_below (g := gb597) (o := .cells #[.int .u64 ((rd_T72 ((rd_T28 l0 a3_0).f4) a3_1).f0), .int .i64 ((rd_T72 ((rd_T28 l0 a3_0).f4) a3_1).f1)] 72 (0, 0)) (by (with_reducible repeat (first | refine blk_drewN ?_ _ | refine blk_drew ?_ | refine blk_alloc ?_ _)); refine blk_put (cs := #[.int .u64 ((rd_T72 ((rd_T28 l0 a3_0).f4) a3_1).f0), .int .i64 0]) ?_ 1 _ rfl; (with_reducible repeat (first | refine blk_drewN ?_ _ | refine blk_drew ?_ | refine blk_alloc ?_ _)); refine blk_put (cs := #[.int .u64 0, .int .i64 0]) ?_ 0 _ rfl; (with_reducible repeat (first | refine blk_drewN ?_ _ | refine blk_drew ?_ | refine blk_alloc ?_ _)); exact BK597.out) hb); have n2_ := bs HB hb; have n3_ := am (hbox); have n4_ := nz HB hg; have n5_ := nz HB hg; have n6_ := am ((by rw [hg]; exact Nat.ne_of_lt (blk_lt (g := gb594) (o := .cells #[.int .i64 a3_0, .int .i64 a3_1, .int .i64 a3_2, .int .i64 a3_3] 44 (0, 0)) (by (iterate 2 ((with_reducible repeat (first | refine blk_drewN ?_ _ | refine blk_drew ?_ | refine blk_alloc ?_ _)); refine blk_far ?_ NB594_597.out _)); (with_reducible repeat (first | refine blk_drewN ?_ _ | refine blk_drew ?_ | refine blk_alloc ?_ _)); exact BK594.out)) : gb594 ≠ gb599)); have n7_ := am ((by rw [hg]; exact Nat.ne_of_gt (blk_lt (g := gb594) (o := .cells #[.int .i64 a3_0, .int .i64 a3_1, .int .i64 a3_2, .int .i64 a3_3] 44 (0, 0)) (by (iterate 2 ((with_reducible repeat (first | refine blk_drewN ?_ _ | refine blk_drew ?_ | refine blk_alloc ?_ _)); refine blk_far ?_ NB594_597.out _)); (with_reducible repeat (first | refine blk_drewN ?_ _ | refine blk_drew ?_ | refine blk_alloc ?_ _)); exact BK594.out)) : gb599 ≠ gb594)); have n8_ := am ((by rw [hg]; exact Nat.ne_of_lt (blk_lt (g := gb597) (o := .cells #[.int .u64 ((rd_T72 ((rd_T28 l0 a3_0).f4) a3_1).f0), .int .i64 ((rd_T72 ((rd_T28 l0 a3_0).f4) a3_1).f1)] 72 (0, 0)) (by (with_reducible repeat (first | refine blk_drewN ?_ _ | refine blk_drew ?_ | refine blk_alloc ?_ _)); refine blk_put (cs := #[.int .u64 ((rd_T72 ((rd_T28 l0 a3_0).f4) a3_1).f0), .int .i64 0]) ?_ 1 _ rfl; (with_reducible repeat (first | refine blk_drewN ?_ _ | refine blk_drew ?_ | refine blk_alloc ?_ _)); refine blk_put (cs := #[.int .u64 0, .int .i64 0]) ?_ 0 _ rfl; (with_reducible repeat (first | refine blk_drewN ?_ _ | refine blk_drew ?_ | refine blk_alloc ?_ _)); exact BK597.out)) : gb597 ≠ gb599)); have n9_ := am ((by rw [hg]; exact Nat.ne_of_gt (blk_lt (g := gb597) (o := .cells #[.int .u64 ((rd_T72 ((rd_T28 l0 a3_0).f4) a3_1).f0), .int .i64 ((rd_T72 ((rd_T28 l0 a3_0).f4) a3_1).f1)] 72 (0, 0)) (by (with_reducible repeat (first | refine blk_drewN ?_ _ | refine blk_drew ?_ | refine blk_alloc ?_ _)); refine blk_put (cs := #[.int .u64 ((rd_T72 ((rd_T28 l0 a3_0).f4) a3_1).f0), .int .i64 0]) ?_ 1 _ rfl; (with_reducible repeat (first | refine blk_drewN ?_ _ | refine blk_drew ?_ | refine blk_alloc ?_ _)); refine blk_put (cs := #[.int .u64 0, .int .i64 0]) ?_ 0 _ rfl; (with_reducible repeat (first | refine blk_drewN ?_ _ | refine blk_drew ?_ | refine blk_alloc ?_ _)); exact BK597.out)) : gb599 ≠ gb597)); revert n0_ n1_ n2_ n3_ n4_ n5_ n6_ n7_ n8_ n9_; clear BK594 BK597 HB; intro BK594 BK597 HB BK599 GW599 GE599 NB594_599 NB599_594 NB597_599 NB599_597; clear hb hbox hg; have hnb30 := NB599_594.out; have hnc30 := NB594_599.out; have hnb31 := NB599_597.out; have hnc31 := NB597_599.out; have hcz32_0 : w29.cell? ⟨gb599, 0, none⟩ = some (.string (⟨#[]⟩ : ByteArray)) := cz BK599 0; have hcz32_1 : w29.cell? ⟨gb599, 1, none⟩ = some (.slice none 0 0) := cz BK599 1; have hcz32_2 : w29.cell? ⟨gb599, 2, none⟩ = some (.slice none 0 0) := cz BK599 2; have hcz32_3 : w29.cell? ⟨gb599, 3, none⟩ = some (.slice none 0 0) := cz BK599 3; have hcz32_4 : w29.cell? ⟨gb599, 4, none⟩ = some (.slice none 0 0) := cz BK599 4; have hcz32_5 : w29.cell? ⟨gb599, 5, none⟩ = some (.slice none 0 0) := cz BK599 5; have hcz32_6 : w29.cell? ⟨gb599, 6, none⟩ = some (.slice none 0 0) := cz BK599 6; have hfz32_0 := fz BK599 0; have hfz32_1 := fz BK599 1; have hfz32_2 := fz BK599 2; have hfz32_3 := fz BK599 3; have hfz32_4 := fz BK599 4; have hfz32_5 := fz BK599 5; have hfz32_6 := fz BK599 6) | ((with_reducible refine gate_store (t := 28) (p := 12) rfl ?_); refine store_event (t := 28) (p := 12) (v := ?vo_w33) (w1 := (((((((w29.setCell ⟨gb599, 0, none⟩ (.string ((rd_T28 l0 a3_2).f0))).setCell ⟨gb599, 1, none⟩ (.slice A598_1 ((rd_T28 l0 a3_2).f1).length c598_1)).setCell ⟨gb599, 2, none⟩ (.slice A598_2 ((rd_T28 l0 a3_2).f2).length c598_2)).setCell ⟨gb599, 3, none⟩ (.slice A598_3 ((rd_T28 l0 a3_2).f3).length c598_3)).setCell ⟨gb599, 4, none⟩ (.slice A598_4 ((rd_T28 l0 a3_2).f4).length c598_4)).setCell ⟨gb599, 5, none⟩ (.slice A598_5 ((rd_T28 l0 a3_2).f5).length c598_5)).setCell ⟨gb599, 6, none⟩ (.slice A598_6 ((rd_T28 l0 a3_2).f6).length c598_6))) ?hg ?ho ?hn ?hr ?_; (case ho => rfl); (case hg => rfl); (case hn => rfl); (case hr => first | (go_simp; done) | (go_simp; rfl)); intro w33 hw; have n0_ := bf7 hw NB594_599 BK594; have n1_ := bf7 hw NB597_599 BK597; have n2_ := bp7 #[.string ((rd_T28 l0 a3_2).f0), .slice A598_1 ((rd_T28 l0 a3_2).f1).length c598_1, .slice A598_2 ((rd_T28 l0 a3_2).f2).length c598_2, .slice A598_3 ((rd_T28 l0 a3_2).f3).length c598_3, .slice A598_4 ((rd_T28 l0 a3_2).f4).length c598_4, .slice A598_5 ((rd_T28 l0 a3_2).f5).length c598_5, .slice A598_6 ((rd_T28 l0 a3_2).f6).length c598_6] hw BK599; have n3_ : Aside0 (Below w.heap.size w w33) := ⟨(by rw [hw]; exact (uc HB.out))⟩; revert n0_ n1_ n2_ n3_; clear hw BK594 BK597 BK599 HB; intro BK594 BK597 BK599 HB; have hcz34_0 : w33.cell? ⟨gb599, 0, none⟩ = some (.string ((rd_T28 l0 a3_2).f0)) := cz BK599 0; have hcz34_1 : w33.cell? ⟨gb599, 1, none⟩ = some (.slice A598_1 ((rd_T28 l0 a3_2).f1).length c598_1) := cz BK599 1; have hcz34_2 : w33.cell? ⟨gb599, 2, none⟩ = some (.slice A598_2 ((rd_T28 l0 a3_2).f2).length c598_2) := cz BK599 2; have hcz34_3 : w33.cell? ⟨gb599, 3, none⟩ = some (.slice A598_3 ((rd_T28 l0 a3_2).f3).length c598_3) := cz BK599 3; have hcz34_4 : w33.cell? ⟨gb599, 4, none⟩ = some (.slice A598_4 ((rd_T28 l0 a3_2).f4).length c598_4) := cz BK599 4; have hcz34_5 : w33.cell? ⟨gb599, 5, none⟩ = some (.slice A598_5 ((rd_T28 l0 a3_2).f5).length c598_5) := cz BK599 5; have hcz34_6 : w33.cell? ⟨gb599, 6, none⟩ = some (.slice A598_6 ((rd_T28 l0 a3_2).f6).length c598_6) := cz BK599 6; have hfz34_0 := fz BK599 0; have hfz34_1 := fz BK599 1; have hfz34_2 := fz BK599 2; have hfz34_3 := fz BK599 3; have hfz34_4 := fz BK599 4; have hfz34_5 := fz BK599 5; have hfz34_6 := fz BK599 6; have hcz35_0 : w33.cell? ⟨gb594, 0, none⟩ = some (.int .i64 a3_0) := cz BK594 0; have hcz35_1 : w33.cell? ⟨gb594, 1, none⟩ = some (.int .i64 a3_1) := cz BK594 1; have hcz35_2 : w33.cell? ⟨gb594, 2, none⟩ = some (.int .i64 a3_2) := cz BK594 2; have hcz35_3 : w33.cell? ⟨gb594, 3, none⟩ = some (.int .i64 a3_3) := cz BK594 3; have hfz35_0 := fz BK594 0; have hfz35_1 := fz BK594 1; have hfz35_2 := fz BK594 2; have hfz35_3 := fz BK594 3; have p600 : 0 ≤ (a3_3 : Int) := ud; have q600 : a3_3 < (((rd_T28 l0 a3_2).f3).length : Int) := ud; obtain ⟨ad600, e600, hx600_0, hx600_1, hx600_2, hx600_3, hx600_4, hx600_5, hx600_6, hx600_7⟩ := at_T35 HR598_3.out a3_3 p600 q600; cases e600; replace hx600_0 := bcel HB hx600_0; replace hx600_1 := bcel HB hx600_1; replace hx600_2 := bcel HB hx600_2; replace hx600_3 := bcel HB hx600_3; replace hx600_4 := bcel HB hx600_4; replace hx600_5 := bcel HB hx600_5; replace hx600_6 := bcel HB hx600_6; replace hx600_7 := bcel HB hx600_7; replace p600 := eq_true p600; replace q600 := eq_true q600))
   have n0_ := am (blk_drew BK594.out)
   have n1_ := am (blk_drew BK597.out)
   have n2_ := am (blk_drew BK599.out)
   have n3_ := am (below_drew1 HB.out)
   revert n0_ n1_ n2_ n3_
   clear BK594 BK597 BK599 HB
   intro BK594 BK597 BK599 HB
   have p601 : 0 ≤ (a3_2 : Int) := ud
   have q601 : a3_2 < (l1.length : Int) := ud
   obtain ⟨ad601, e601, hx601_0⟩ := Kd.at_int HR1.out a3_2 p601 q601
   have hw601_0 := hx601_0
   cases e601
   replace hx601_0 := bcel HB hx601_0
   replace p601 := eq_true p601
   replace q601 := eq_true q601
   have p602 : 0 ≤ (a3_2 : Int) := ud
   have q602 : a3_2 < (l2.length : Int) := ud
   obtain ⟨ad602, e602, hx602_0⟩ := Kd.at_int HR2.out a3_2 p602 q602
   have hw602_0 := hx602_0
   cases e602
   replace hx602_0 := bcel HB hx602_0
   replace p602 := eq_true p602
   replace q602 := eq_true q602
   refine sr 21 [] (hB7 BK599 (hB4 BK594 (hA (bcel HB hw601_0 :) (hZ (bcel HB hw602_0 :))))) (fun hHeld => ?_); refine with_tabW table_Slot.tab6 table_Slot.bits6 (fun HT_ HW_ => ?_)
   generalize w33.drew = w36 at BK594 BK597 BK599 HB hx601_0 hx602_0 hHeld ⊢
   refine pv 1 45 (bA 21 2) HT_ ?_
   refine pv 2 46 (bA 21 6) HT_ ?_
   refine pv 6 50 (bA 21 70) HT_ ?_
   refine pv 8 52 (bA 21 326) HT_ ?_
   refine pv 9 53 (bA 21 838) HT_ ?_
   refine tv 0 44 (bA 21 839) HT_ HW_ hHeld ?_ (hy := by rintro w' ⟨s0, s1, s2, s3, s4, s5, s6, s7, s8, s9, s10, s11, s12⟩; go_simp; with_reducible rfl)
   refine tv 3 47 (bA 21 847) HT_ HW_ hHeld ?_ (hy := by rintro w' ⟨s0, s1, s2, s3, s4, s5, s6, s7, s8, s9, s10, s11, s12⟩; go_simp; with_reducible rfl)
   refine pv 4 48 (bA 21 863) HT_ ?_
   refine tv 5 49 (bA 21 895) HT_ HW_ hHeld ?_ (hy := by rintro w' ⟨s0, s1, s2, s3, s4, s5, s6, s7, s8, s9, s10, s11, s12⟩; go_simp; with_reducible rfl)
   refine tv 7 51 (bA 21 1023) HT_ HW_ hHeld ?_ (hy := by rintro w' ⟨s0, s1, s2, s3, s4, s5, s6, s7, s8, s9, s10, s11, s12⟩; go_simp; with_reducible rfl)
   refine tv 10 54 (bA 21 2047) HT_ HW_ hHeld ?_ (hy := by rintro w' ⟨s0, s1, s2, s3, s4, s5, s6, s7, s8, s9, s10, s11, s12⟩; go_simp; with_reducible rfl)
   refine pv 11 55 (bA 21 4095) HT_ ?_
   refine tv 12 56 (bA 21 8191) HT_ HW_ hHeld ?_ (hy := by rintro w' ⟨s0, s1, s2, s3, s4, s5, s6, s7, s8, s9, s10, s11, s12⟩; go_simp; with_reducible rfl)
   refine join_ (σ := Nat × Nat) 2 (bA 21 524287) (fun s_ => [(57, .tuple #[.agg #[.int .u64 t603, .int .u64 t604, .int .u64 t605, .int .i64 t606, .int .i64 t607, .bool t608], .agg #[.int .u64 t609, .int .u64 t610, .int .u64 t611, .int .i64 t612, .int .i64 t613, .bool t614]]), (13, .pointer (some ⟨s_.1, 0, none⟩)), (14, .pointer (some ⟨s_.2, 0, none⟩)), (43, .tuple #[.agg #[.int .u64 t603, .int .u64 t604, .int .u64 t605, .int .i64 t606, .int .i64 t607, .bool t608], .agg #[.int .u64 t609, .int .u64 t610, .int .u64 t611, .int .i64 t612, .int .i64 t613, .bool t614]]), (58, .agg #[.int .u64 t603, .int .u64 t604, .int .u64 t605, .int .i64 t606, .int .i64 t607, .bool t608]), (59, .agg #[.int .u64 t609, .int .u64 t610, .int .u64 t611, .int .i64 t612, .int .i64 t613, .bool t614])]) (fun s_ w' => (w'.cell? ⟨gb599, 0, none⟩ = some (.string ((rd_T28 l0 a3_2).f0)) ∧ w'.cell? ⟨gb599, 1, none⟩ = some (.slice A598_1 ((rd_T28 l0 a3_2).f1).length c598_1) ∧ w'.cell? ⟨gb599, 2, none⟩ = some (.slice A598_2 ((rd_T28 l0 a3_2).f2).length c598_2) ∧ w'.cell? ⟨gb599, 3, none⟩ = some (.slice (some ad600) ((rd_T28 l0 a3_2).f3).length c598_3) ∧ w'.cell? ⟨gb599, 4, none⟩ = some (.slice A598_4 ((rd_T28 l0 a3_2).f4).length c598_4) ∧ w'.cell? ⟨gb599, 5, none⟩ = some (.slice A598_5 ((rd_T28 l0 a3_2).f5).length c598_5) ∧ w'.cell? ⟨gb599, 6, none⟩ = some (.slice A598_6 ((rd_T28 l0 a3_2).f6).length c598_6) ∧ w'.cell? ⟨gb594, 0, none⟩ = some (.int .i64 a3_0) ∧ w'.cell? ⟨gb594, 1, none⟩ = some (.int .i64 a3_1) ∧ w'.cell? ⟨gb594, 2, none⟩ = some (.int .i64 a3_2) ∧ w'.cell? ⟨gb594, 3, none⟩ = some (.int .i64 a3_3) ∧ w'.cell? (ad601.add (a3_2).toNat) = some (.int .u64 (rd l1 a3_2)) ∧ w'.cell? (ad602.add (a3_2).toNat) = some (.int .i64 (rd l2 a3_2))) ∧ (w'.heap[gb594]? = some (.cells #[.int .i64 a3_0, .int .i64 a3_1, .int .i64 a3_2, .int .i64 a3_3] 44 (0, 0))) ∧ (w'.heap[gb597]? = some (.cells #[.int .u64 ((rd_T72 ((rd_T28 l0 a3_0).f4) a3_1).f0), .int .i64 ((rd_T72 ((rd_T28 l0 a3_0).f4) a3_1).f1)] 72 (0, 0))) ∧ (w'.heap[gb599]? = some (.cells #[.string ((rd_T28 l0 a3_2).f0), .slice A598_1 ((rd_T28 l0 a3_2).f1).length c598_1, .slice A598_2 ((rd_T28 l0 a3_2).f2).length c598_2, .slice (some ad600) ((rd_T28 l0 a3_2).f3).length c598_3, .slice A598_4 ((rd_T28 l0 a3_2).f4).length c598_4, .slice A598_5 ((rd_T28 l0 a3_2).f5).length c598_5, .slice A598_6 ((rd_T28 l0 a3_2).f6).length c598_6] 28 (0, 0))) ∧ (w'.heap[s_.1]? = some (.cells #[.int .u64 0, .int .u64 0, .int .u64 0, .int .i64 0, .int .i64 0, .bool false] 37 (0, 0))) ∧ (w'.heap[s_.2]? = some (.cells #[.int .u64 0, .int .u64 0, .int .u64 0, .int .i64 0, .int .i64 0, .bool false] 37 (0, 0))) ∧ (w.heap.size ≤ s_.1) ∧ (w.heap.size ≤ s_.1) ∧ (gb594 ≠ s_.1) ∧ (s_.1 ≠ gb594) ∧ (gb597 ≠ s_.1) ∧ (s_.1 ≠ gb597) ∧ (gb599 ≠ s_.1) ∧ (s_.1 ≠ gb599) ∧ (s_.2 ≠ s_.1) ∧ (s_.1 ≠ s_.2) ∧ (w.heap.size ≤ s_.2) ∧ (w.heap.size ≤ s_.2) ∧ (gb594 ≠ s_.2) ∧ (s_.2 ≠ gb594) ∧ (gb597 ≠ s_.2) ∧ (s_.2 ≠ gb597) ∧ (gb599 ≠ s_.2) ∧ (s_.2 ≠ gb599) ∧ (Below w.heap.size w w')) ?_ ?_
   rotate_left
   ·intro hJ13_17_18
    refine join_ (σ := Nat) 3 (bA 21 262143) (fun s_ => [(57, .tuple #[.agg #[.int .u64 t603, .int .u64 t604, .int .u64 t605, .int .i64 t606, .int .i64 t607, .bool t608], .agg #[.int .u64 t609, .int .u64 t610, .int .u64 t611, .int .i64 t612, .int .i64 t613, .bool t614]]), (13, .pointer (some ⟨s_, 0, none⟩)), (43, .tuple #[.agg #[.int .u64 t603, .int .u64 t604, .int .u64 t605, .int .i64 t606, .int .i64 t607, .bool t608], .agg #[.int .u64 t609, .int .u64 t610, .int .u64 t611, .int .i64 t612, .int .i64 t613, .bool t614]]), (58, .agg #[.int .u64 t603, .int .u64 t604, .int .u64 t605, .int .i64 t606, .int .i64 t607, .bool t608]), (59, .agg #[.int .u64 t609, .int .u64 t610, .int .u64 t611, .int .i64 t612, .int .i64 t613, .bool t614])]) (fun s_ w' => (w'.cell? ⟨gb599, 0, none⟩ = some (.string ((rd_T28 l0 a3_2).f0)) ∧ w'.cell? ⟨gb599, 1, none⟩ = some (.slice A598_1 ((rd_T28 l0 a3_2).f1).length c598_1) ∧ w'.cell? ⟨gb599, 2, none⟩ = some (.slice A598_2 ((rd_T28 l0 a3_2).f2).length c598_2) ∧ w'.cell? ⟨gb599, 3, none⟩ = some (.slice (some ad600) ((rd_T28 l0 a3_2).f3).length c598_3) ∧ w'.cell? ⟨gb599, 4, none⟩ = some (.slice A598_4 ((rd_T28 l0 a3_2).f4).length c598_4) ∧ w'.cell? ⟨gb599, 5, none⟩ = some (.slice A598_5 ((rd_T28 l0 a3_2).f5).length c598_5) ∧ w'.cell? ⟨gb599, 6, none⟩ = some (.slice A598_6 ((rd_T28 l0 a3_2).f6).length c598_6) ∧ w'.cell? ⟨gb594, 0, none⟩ = some (.int .i64 a3_0) ∧ w'.cell? ⟨gb594, 1, none⟩ = some (.int .i64 a3_1) ∧ w'.cell? ⟨gb594, 2, none⟩ = some (.int .i64 a3_2) ∧ w'.cell? ⟨gb594, 3, none⟩ = some (.int .i64 a3_3) ∧ w'.cell? (ad601.add (a3_2).toNat) = some (.int .u64 (rd l1 a3_2)) ∧ w'.cell? (ad602.add (a3_2).toNat) = some (.int .i64 (rd l2 a3_2))) ∧ (w'.heap[gb594]? = some (.cells #[.int .i64 a3_0, .int .i64 a3_1, .int .i64 a3_2, .int .i64 a3_3] 44 (0, 0))) ∧ (w'.heap[gb597]? = some (.cells #[.int .u64 ((rd_T72 ((rd_T28 l0 a3_0).f4) a3_1).f0), .int .i64 ((rd_T72 ((rd_T28 l0 a3_0).f4) a3_1).f1)] 72 (0, 0))) ∧ (w'.heap[gb599]? = some (.cells #[.string ((rd_T28 l0 a3_2).f0), .slice A598_1 ((rd_T28 l0 a3_2).f1).length c598_1, .slice A598_2 ((rd_T28 l0 a3_2).f2).length c598_2, .slice (some ad600) ((rd_T28 l0 a3_2).f3).length c598_3, .slice A598_4 ((rd_T28 l0 a3_2).f4).length c598_4, .slice A598_5 ((rd_T28 l0 a3_2).f5).length c598_5, .slice A598_6 ((rd_T28 l0 a3_2).f6).length c598_6] 28 (0, 0))) ∧ (w'.heap[s_]? = some (.cells #[.int .u64 0, .int .u64 0, .int .u64 0, .int .i64 0, .int .i64 0, .bool false] 37 (0, 0))) ∧ (w.heap.size ≤ s_) ∧ (w.heap.size ≤ s_) ∧ (gb594 ≠ s_) ∧ (s_ ≠ gb594) ∧ (gb597 ≠ s_) ∧ (s_ ≠ gb597) ∧ (gb599 ≠ s_) ∧ (s_ ≠ gb599) ∧ (Below w.heap.size w w')) ?_ ?_
    rotate_left
    ·intro hJ13_17
     refine join_ (σ := Nat) 3 (bA 21 393215) (fun s_ => [(57, .tuple #[.agg #[.int .u64 t603, .int .u64 t604, .int .u64 t605, .int .i64 t606, .int .i64 t607, .bool t608], .agg #[.int .u64 t609, .int .u64 t610, .int .u64 t611, .int .i64 t612, .int .i64 t613, .bool t614]]), (14, .pointer (some ⟨s_, 0, none⟩)), (43, .tuple #[.agg #[.int .u64 t603, .int .u64 t604, .int .u64 t605, .int .i64 t606, .int .i64 t607, .bool t608], .agg #[.int .u64 t609, .int .u64 t610, .int .u64 t611, .int .i64 t612, .int .i64 t613, .bool t614]]), (58, .agg #[.int .u64 t603, .int .u64 t604, .int .u64 t605, .int .i64 t606, .int .i64 t607, .bool t608]), (59, .agg #[.int .u64 t609, .int .u64 t610, .int .u64 t611, .int .i64 t612, .int .i64 t613, .bool t614])]) (fun s_ w' => (w'.cell? ⟨gb599, 0, none⟩ = some (.string ((rd_T28 l0 a3_2).f0)) ∧ w'.cell? ⟨gb599, 1, none⟩ = some (.slice A598_1 ((rd_T28 l0 a3_2).f1).length c598_1) ∧ w'.cell? ⟨gb599, 2, none⟩ = some (.slice A598_2 ((rd_T28 l0 a3_2).f2).length c598_2) ∧ w'.cell? ⟨gb599, 3, none⟩ = some (.slice (some ad600) ((rd_T28 l0 a3_2).f3).length c598_3) ∧ w'.cell? ⟨gb599, 4, none⟩ = some (.slice A598_4 ((rd_T28 l0 a3_2).f4).length c598_4) ∧ w'.cell? ⟨gb599, 5, none⟩ = some (.slice A598_5 ((rd_T28 l0 a3_2).f5).length c598_5) ∧ w'.cell? ⟨gb599, 6, none⟩ = some (.slice A598_6 ((rd_T28 l0 a3_2).f6).length c598_6) ∧ w'.cell? ⟨gb594, 0, none⟩ = some (.int .i64 a3_0) ∧ w'.cell? ⟨gb594, 1, none⟩ = some (.int .i64 a3_1) ∧ w'.cell? ⟨gb594, 2, none⟩ = some (.int .i64 a3_2) ∧ w'.cell? ⟨gb594, 3, none⟩ = some (.int .i64 a3_3) ∧ w'.cell? (ad601.add (a3_2).toNat) = some (.int .u64 (rd l1 a3_2)) ∧ w'.cell? (ad602.add (a3_2).toNat) = some (.int .i64 (rd l2 a3_2))) ∧ (w'.heap[gb594]? = some (.cells #[.int .i64 a3_0, .int .i64 a3_1, .int .i64 a3_2, .int .i64 a3_3] 44 (0, 0))) ∧ (w'.heap[gb597]? = some (.cells #[.int .u64 ((rd_T72 ((rd_T28 l0 a3_0).f4) a3_1).f0), .int .i64 ((rd_T72 ((rd_T28 l0 a3_0).f4) a3_1).f1)] 72 (0, 0))) ∧ (w'.heap[gb599]? = some (.cells #[.string ((rd_T28 l0 a3_2).f0), .slice A598_1 ((rd_T28 l0 a3_2).f1).length c598_1, .slice A598_2 ((rd_T28 l0 a3_2).f2).length c598_2, .slice (some ad600) ((rd_T28 l0 a3_2).f3).length c598_3, .slice A598_4 ((rd_T28 l0 a3_2).f4).length c598_4, .slice A598_5 ((rd_T28 l0 a3_2).f5).length c598_5, .slice A598_6 ((rd_T28 l0 a3_2).f6).length c598_6] 28 (0, 0))) ∧ (w'.heap[s_]? = some (.cells #[.int .u64 0, .int .u64 0, .int .u64 0, .int .i64 0, .int .i64 0, .bool false] 37 (0, 0))) ∧ (w.heap.size ≤ s_) ∧ (w.heap.size ≤ s_) ∧ (gb594 ≠ s_) ∧ (s_ ≠ gb594) ∧ (gb597 ≠ s_) ∧ (s_ ≠ gb597) ∧ (gb599 ≠ s_) ∧ (s_ ≠ gb599) ∧ (Below w.heap.size w w')) ?_ ?_
     rotate_left
     ·intro hJ13_18
      refine join_ (σ := Nat × Nat) 6 (bA 21 401407) (fun s_ => [(13, .pointer (some ⟨s_.1, 0, none⟩)), (14, .pointer (some ⟨s_.2, 0, none⟩))]) (fun s_ w' => (w'.cell? ⟨gb599, 0, none⟩ = some (.string ((rd_T28 l0 a3_2).f0)) ∧ w'.cell? ⟨gb599, 1, none⟩ = some (.slice A598_1 ((rd_T28 l0 a3_2).f1).length c598_1) ∧ w'.cell? ⟨gb599, 2, none⟩ = some (.slice A598_2 ((rd_T28 l0 a3_2).f2).length c598_2) ∧ w'.cell? ⟨gb599, 3, none⟩ = some (.slice (some ad600) ((rd_T28 l0 a3_2).f3).length c598_3) ∧ w'.cell? ⟨gb599, 4, none⟩ = some (.slice A598_4 ((rd_T28 l0 a3_2).f4).length c598_4) ∧ w'.cell? ⟨gb599, 5, none⟩ = some (.slice A598_5 ((rd_T28 l0 a3_2).f5).length c598_5) ∧ w'.cell? ⟨gb599, 6, none⟩ = some (.slice A598_6 ((rd_T28 l0 a3_2).f6).length c598_6) ∧ w'.cell? ⟨gb594, 0, none⟩ = some (.int .i64 a3_0) ∧ w'.cell? ⟨gb594, 1, none⟩ = some (.int .i64 a3_1) ∧ w'.cell? ⟨gb594, 2, none⟩ = some (.int .i64 a3_2) ∧ w'.cell? ⟨gb594, 3, none⟩ = some (.int .i64 a3_3) ∧ w'.cell? (ad601.add (a3_2).toNat) = some (.int .u64 (rd l1 a3_2)) ∧ w'.cell? (ad602.add (a3_2).toNat) = some (.int .i64 (rd l2 a3_2))) ∧ (w'.heap[gb594]? = some (.cells #[.int .i64 a3_0, .int .i64 a3_1, .int .i64 a3_2, .int .i64 a3_3] 44 (0, 0))) ∧ (w'.heap[gb597]? = some (.cells #[.int .u64 ((rd_T72 ((rd_T28 l0 a3_0).f4) a3_1).f0), .int .i64 ((rd_T72 ((rd_T28 l0 a3_0).f4) a3_1).f1)] 72 (0, 0))) ∧ (w'.heap[gb599]? = some (.cells #[.string ((rd_T28 l0 a3_2).f0), .slice A598_1 ((rd_T28 l0 a3_2).f1).length c598_1, .slice A598_2 ((rd_T28 l0 a3_2).f2).length c598_2, .slice (some ad600) ((rd_T28 l0 a3_2).f3).length c598_3, .slice A598_4 ((rd_T28 l0 a3_2).f4).length c598_4, .slice A598_5 ((rd_T28 l0 a3_2).f5).length c598_5, .slice A598_6 ((rd_T28 l0 a3_2).f6).length c598_6] 28 (0, 0))) ∧ (w'.heap[s_.1]? = some (.cells #[.int .u64 0, .int .u64 0, .int .u64 0, .int .i64 0, .int .i64 0, .bool false] 37 (0, 0))) ∧ (w'.heap[s_.2]? = some (.cells #[.int .u64 0, .int .u64 0, .int .u64 0, .int .i64 0, .int .i64 0, .bool false] 37 (0, 0))) ∧ (w.heap.size ≤ s_.1) ∧ (w.heap.size ≤ s_.1) ∧ (gb594 ≠ s_.1) ∧ (s_.1 ≠ gb594) ∧ (gb597 ≠ s_.1) ∧ (s_.1 ≠ gb597) ∧ (gb599 ≠ s_.1) ∧ (s_.1 ≠ gb599) ∧ (s_.2 ≠ s_.1) ∧ (s_.1 ≠ s_.2) ∧ (w.heap.size ≤ s_.2) ∧ (w.heap.size ≤ s_.2) ∧ (gb594 ≠ s_.2) ∧ (s_.2 ≠ gb594) ∧ (gb597 ≠ s_.2) ∧ (s_.2 ≠ gb597) ∧ (gb599 ≠ s_.2) ∧ (s_.2 ≠ gb599) ∧ (Below w.heap.size w w')) ?_ ?_
      rotate_left
      ·intro hJ17_18
       refine join_ (σ := Unit) 4 (bA 21 131071) (fun s_ => [(57, .tuple #[.agg #[.int .u64 t603, .int .u64 t604, .int .u64 t605, .int .i64 t606, .int .i64 t607, .bool t608], .agg #[.int .u64 t609, .int .u64 t610, .int .u64 t611, .int .i64 t612, .int .i64 t613, .bool t614]]), (43, .tuple #[.agg #[.int .u64 t603, .int .u64 t604, .int .u64 t605, .int .i64 t606, .int .i64 t607, .bool t608], .agg #[.int .u64 t609, .int .u64 t610, .int .u64 t611, .int .i64 t612, .int .i64 t613, .bool t614]]), (58, .agg #[.int .u64 t603, .int .u64 t604, .int .u64 t605, .int .i64 t606, .int .i64 t607, .bool t608]), (59, .agg #[.int .u64 t609, .int .u64 t610, .int .u64 t611, .int .i64 t612, .int .i64 t613, .bool t614])]) (fun s_ w' => (w'.cell? ⟨gb599, 0, none⟩ = some (.string ((rd_T28 l0 a3_2).f0)) ∧ w'.cell? ⟨gb599, 1, none⟩ = some (.slice A598_1 ((rd_T28 l0 a3_2).f1).length c598_1) ∧ w'.cell? ⟨gb599, 2, none⟩ = some (.slice A598_2 ((rd_T28 l0 a3_2).f2).length c598_2) ∧ w'.cell? ⟨gb599, 3, none⟩ = some (.slice (some ad600) ((rd_T28 l0 a3_2).f3).length c598_3) ∧ w'.cell? ⟨gb599, 4, none⟩ = some (.slice A598_4 ((rd_T28 l0 a3_2).f4).length c598_4) ∧ w'.cell? ⟨gb599, 5, none⟩ = some (.slice A598_5 ((rd_T28 l0 a3_2).f5).length c598_5) ∧ w'.cell? ⟨gb599, 6, none⟩ = some (.slice A598_6 ((rd_T28 l0 a3_2).f6).length c598_6) ∧ w'.cell? ⟨gb594, 0, none⟩ = some (.int .i64 a3_0) ∧ w'.cell? ⟨gb594, 1, none⟩ = some (.int .i64 a3_1) ∧ w'.cell? ⟨gb594, 2, none⟩ = some (.int .i64 a3_2) ∧ w'.cell? ⟨gb594, 3, none⟩ = some (.int .i64 a3_3) ∧ w'.cell? (ad601.add (a3_2).toNat) = some (.int .u64 (rd l1 a3_2)) ∧ w'.cell? (ad602.add (a3_2).toNat) = some (.int .i64 (rd l2 a3_2))) ∧ (w'.heap[gb594]? = some (.cells #[.int .i64 a3_0, .int .i64 a3_1, .int .i64 a3_2, .int .i64 a3_3] 44 (0, 0))) ∧ (w'.heap[gb597]? = some (.cells #[.int .u64 ((rd_T72 ((rd_T28 l0 a3_0).f4) a3_1).f0), .int .i64 ((rd_T72 ((rd_T28 l0 a3_0).f4) a3_1).f1)] 72 (0, 0))) ∧ (w'.heap[gb599]? = some (.cells #[.string ((rd_T28 l0 a3_2).f0), .slice A598_1 ((rd_T28 l0 a3_2).f1).length c598_1, .slice A598_2 ((rd_T28 l0 a3_2).f2).length c598_2, .slice (some ad600) ((rd_T28 l0 a3_2).f3).length c598_3, .slice A598_4 ((rd_T28 l0 a3_2).f4).length c598_4, .slice A598_5 ((rd_T28 l0 a3_2).f5).length c598_5, .slice A598_6 ((rd_T28 l0 a3_2).f6).length c598_6] 28 (0, 0))) ∧ (Below w.heap.size w w')) ?_ ?_
       rotate_left
       ·intro hJ13
        refine join_ (σ := Nat) 7 (bA 21 139263) (fun s_ => [(13, .pointer (some ⟨s_, 0, none⟩))]) (fun s_ w' => (w'.cell? ⟨gb599, 0, none⟩ = some (.string ((rd_T28 l0 a3_2).f0)) ∧ w'.cell? ⟨gb599, 1, none⟩ = some (.slice A598_1 ((rd_T28 l0 a3_2).f1).length c598_1) ∧ w'.cell? ⟨gb599, 2, none⟩ = some (.slice A598_2 ((rd_T28 l0 a3_2).f2).length c598_2) ∧ w'.cell? ⟨gb599, 3, none⟩ = some (.slice (some ad600) ((rd_T28 l0 a3_2).f3).length c598_3) ∧ w'.cell? ⟨gb599, 4, none⟩ = some (.slice A598_4 ((rd_T28 l0 a3_2).f4).length c598_4) ∧ w'.cell? ⟨gb599, 5, none⟩ = some (.slice A598_5 ((rd_T28 l0 a3_2).f5).length c598_5) ∧ w'.cell? ⟨gb599, 6, none⟩ = some (.slice A598_6 ((rd_T28 l0 a3_2).f6).length c598_6) ∧ w'.cell? ⟨gb594, 0, none⟩ = some (.int .i64 a3_0) ∧ w'.cell? ⟨gb594, 1, none⟩ = some (.int .i64 a3_1) ∧ w'.cell? ⟨gb594, 2, none⟩ = some (.int .i64 a3_2) ∧ w'.cell? ⟨gb594, 3, none⟩ = some (.int .i64 a3_3) ∧ w'.cell? (ad601.add (a3_2).toNat) = some (.int .u64 (rd l1 a3_2)) ∧ w'.cell? (ad602.add (a3_2).toNat) = some (.int .i64 (rd l2 a3_2))) ∧ (w'.heap[gb594]? = some (.cells #[.int .i64 a3_0, .int .i64 a3_1, .int .i64 a3_2, .int .i64 a3_3] 44 (0, 0))) ∧ (w'.heap[gb597]? = some (.cells #[.int .u64 ((rd_T72 ((rd_T28 l0 a3_0).f4) a3_1).f0), .int .i64 ((rd_T72 ((rd_T28 l0 a3_0).f4) a3_1).f1)] 72 (0, 0))) ∧ (w'.heap[gb599]? = some (.cells #[.string ((rd_T28 l0 a3_2).f0), .slice A598_1 ((rd_T28 l0 a3_2).f1).length c598_1, .slice A598_2 ((rd_T28 l0 a3_2).f2).length c598_2, .slice (some ad600) ((rd_T28 l0 a3_2).f3).length c598_3, .slice A598_4 ((rd_T28 l0 a3_2).f4).length c598_4, .slice A598_5 ((rd_T28 l0 a3_2).f5).length c598_5, .slice A598_6 ((rd_T28 l0 a3_2).f6).length c598_6] 28 (0, 0))) ∧ (w'.heap[s_]? = some (.cells #[.int .u64 0, .int .u64 0, .int .u64 0, .int .i64 0, .int .i64 0, .bool false] 37 (0, 0))) ∧ (w.heap.size ≤ s_) ∧ (w.heap.size ≤ s_) ∧ (gb594 ≠ s_) ∧ (s_ ≠ gb594) ∧ (gb597 ≠ s_) ∧ (s_ ≠ gb597) ∧ (gb599 ≠ s_) ∧ (s_ ≠ gb599) ∧ (Below w.heap.size w w')) ?_ ?_
        rotate_left
        ·intro hJ17
         refine join_ (σ := Nat) 7 (bA 21 270335) (fun s_ => [(14, .pointer (some ⟨s_, 0, none⟩))]) (fun s_ w' => (w'.cell? ⟨gb599, 0, none⟩ = some (.string ((rd_T28 l0 a3_2).f0)) ∧ w'.cell? ⟨gb599, 1, none⟩ = some (.slice A598_1 ((rd_T28 l0 a3_2).f1).length c598_1) ∧ w'.cell? ⟨gb599, 2, none⟩ = some (.slice A598_2 ((rd_T28 l0 a3_2).f2).length c598_2) ∧ w'.cell? ⟨gb599, 3, none⟩ = some (.slice (some ad600) ((rd_T28 l0 a3_2).f3).length c598_3) ∧ w'.cell? ⟨gb599, 4, none⟩ = some (.slice A598_4 ((rd_T28 l0 a3_2).f4).length c598_4) ∧ w'.cell? ⟨gb599, 5, none⟩ = some (.slice A598_5 ((rd_T28 l0 a3_2).f5).length c598_5) ∧ w'.cell? ⟨gb599, 6, none⟩ = some (.slice A598_6 ((rd_T28 l0 a3_2).f6).length c598_6) ∧ w'.cell? ⟨gb594, 0, none⟩ = some (.int .i64 a3_0) ∧ w'.cell? ⟨gb594, 1, none⟩ = some (.int .i64 a3_1) ∧ w'.cell? ⟨gb594, 2, none⟩ = some (.int .i64 a3_2) ∧ w'.cell? ⟨gb594, 3, none⟩ = some (.int .i64 a3_3) ∧ w'.cell? (ad601.add (a3_2).toNat) = some (.int .u64 (rd l1 a3_2)) ∧ w'.cell? (ad602.add (a3_2).toNat) = some (.int .i64 (rd l2 a3_2))) ∧ (w'.heap[gb594]? = some (.cells #[.int .i64 a3_0, .int .i64 a3_1, .int .i64 a3_2, .int .i64 a3_3] 44 (0, 0))) ∧ (w'.heap[gb597]? = some (.cells #[.int .u64 ((rd_T72 ((rd_T28 l0 a3_0).f4) a3_1).f0), .int .i64 ((rd_T72 ((rd_T28 l0 a3_0).f4) a3_1).f1)] 72 (0, 0))) ∧ (w'.heap[gb599]? = some (.cells #[.string ((rd_T28 l0 a3_2).f0), .slice A598_1 ((rd_T28 l0 a3_2).f1).length c598_1, .slice A598_2 ((rd_T28 l0 a3_2).f2).length c598_2, .slice (some ad600) ((rd_T28 l0 a3_2).f3).length c598_3, .slice A598_4 ((rd_T28 l0 a3_2).f4).length c598_4, .slice A598_5 ((rd_T28 l0 a3_2).f5).length c598_5, .slice A598_6 ((rd_T28 l0 a3_2).f6).length c598_6] 28 (0, 0))) ∧ (w'.heap[s_]? = some (.cells #[.int .u64 0, .int .u64 0, .int .u64 0, .int .i64 0, .int .i64 0, .bool false] 37 (0, 0))) ∧ (w.heap.size ≤ s_) ∧ (w.heap.size ≤ s_) ∧ (gb594 ≠ s_) ∧ (s_ ≠ gb594) ∧ (gb597 ≠ s_) ∧ (s_ ≠ gb597) ∧ (gb599 ≠ s_) ∧ (s_ ≠ gb599) ∧ (Below w.heap.size w w')) ?_ ?_
         rotate_left
         ·intro hJ18
          refine three_ (i := 13) (j := 17) (k := 18) (Ni := some 57) (Nj := some 13) (Nk := some 14) (bA 21 16383) (bA 21 139263) (bA 21 270335) rfl rfl rfl rfl rfl rfl (three_of HT_.out (by kernel_rfl)) (by decide) (by decide) (by decide) (fun K hK => ?_) (fun K hK => ?_) (fun K hK => ?_)
          ·skip
           refine goes_ Try.func10 (by kernel_rfl) rfl #[.agg #[.string ((rd_T28 l0 a3_2).f0), .slice A598_1 ((rd_T28 l0 a3_2).f1).length c598_1, .slice A598_2 ((rd_T28 l0 a3_2).f2).length c598_2, .slice (some ad600) ((rd_T28 l0 a3_2).f3).length c598_3, .slice A598_4 ((rd_T28 l0 a3_2).f4).length c598_4, .slice A598_5 ((rd_T28 l0 a3_2).f5).length c598_5, .slice A598_6 ((rd_T28 l0 a3_2).f6).length c598_6], .int .u64 (rd l1 a3_2), .int .i64 a3_3, .int .i64 (rd l2 a3_2)] (by rfl) rfl rfl (by (try simp only [List.map_toArray, List.map_cons, List.map_nil]); first | done | rfl | (simp only [List.length_drop, List.length_take]; rfl)) ?_
           with_reducible refine (table_Entry.calls k ((rd_T28 l0 a3_2).f0) _ _ ((rd_T28 l0 a3_2).f1) _ _ ((rd_T28 l0 a3_2).f2) _ _ ((rd_T28 l0 a3_2).f3) _ _ ((rd_T28 l0 a3_2).f4) _ _ ((rd_T28 l0 a3_2).f5) _ _ ((rd_T28 l0 a3_2).f6) (rd l1 a3_2) a3_3 (rd l2 a3_2) t603 t604 t605 t606 t607 t608 t609 t610 t611 t612 t613 t614 _ ?side1 ?side2 ?side3 ?side4 ?side5 ?side6 ?side7 ?side8 ?side9 ?side10 ?side11 ?side12 A17.out).mono ?_
           (case side1 => exact us (Kd.C_below HR598_1.out HB.out))
           (case side2 => exact HC598_1.out)
           (case side3 => exact us (Kd.C_below HR598_2.out HB.out))
           (case side4 => exact HC598_2.out)
           (case side5 => exact us (Kd.C_below HR598_3.out HB.out))
           (case side6 => exact HC598_3.out)
           (case side7 => exact us (Kd.C_below HR598_4.out HB.out))
           (case side8 => exact HC598_4.out)
           (case side9 => exact us (Kd.C_below HR598_5.out HB.out))
           (case side10 => exact HC598_5.out)
           (case side11 => exact us (Kd.C_below HR598_6.out HB.out))
           (case side12 => exact HC598_6.out)
           rintro e w37 ⟨rfl, hb⟩
           refine ⟨_, rfl, ?_⟩
           have n0_ := bw BK594 hb
           have n1_ := bw BK597 hb
           have n2_ := bw BK599 hb
           have n3_ := bs HB hb
           revert n0_ n1_ n2_ n3_
           clear BK594 BK597 BK599 HB
           intro BK594 BK597 BK599 HB
           (try clear hb)
           (try clear hb2)
           (try clear hk)
           (try clear hi)
           refine hK.out _ _ ⟨cz BK599 0, cz BK599 1, cz BK599 2, cz BK599 3, cz BK599 4, cz BK599 5, cz BK599 6, cz BK594 0, cz BK594 1, cz BK594 2, cz BK594 3, (bcel HB hw601_0 :), (bcel HB hw602_0 :)⟩ (fun hHeld => ?_)
           clear hK K
           refine norm_ (a' := ?_) ?_ ?_
           rotate_left
           ·show Act.put _ (some 57) _ = _
            simp only [Act.put, List.setIfInBounds_toArray, List.set_cons_zero, List.set_cons_succ, i64_w, i32_w]
            rfl
           refine pv 14 43 (bA 21 32767) HT_ ?_
           refine pv 15 58 (bA 21 65535) HT_ ?_
           refine pv 16 59 (bA 21 131071) HT_ ?_
           exact norm_ (by first | (simp only [putAll, Act.put, List.setIfInBounds_toArray, List.set_cons_zero, List.set_cons_succ]; done) | (simp only [putAll, Act.put, List.setIfInBounds_toArray, List.set_cons_zero, List.set_cons_succ]; rfl)) (hJ13 () _ ⟨hHeld, (ub BK594.out), (ub BK597.out), (ub BK599.out), (uc HB.out)⟩)
          ·skip
           refine box_step ?hg (N := 13) ?hd (cs := #[.int .u64 0, .int .u64 0, .int .u64 0, .int .i64 0, .int .i64 0, .bool false]) (t := 37) ?hr ?_; (case hd => rfl); (case hg => rfl); (case hr => first | (go_simp; done) | (go_simp; rfl))
           intro gb615 hg w37 hbox hb
           have n0_ := bw BK594 hb
           have n1_ := bw BK597 hb
           have n2_ := bw BK599 hb
           have n3_ := bs HB hb
           have n4_ := am (hbox)
           have n5_ := nz HB hg
           have n6_ := nz HB hg
           have n7_ := nl BK594 hg
           have n8_ := nr BK594 hg
           have n9_ := nl BK597 hg
           have n10_ := nr BK597 hg
           have n11_ := nl BK599 hg
           have n12_ := nr BK599 hg
           revert n0_ n1_ n2_ n3_ n4_ n5_ n6_ n7_ n8_ n9_ n10_ n11_ n12_
           clear BK594 BK597 BK599 HB
           intro BK594 BK597 BK599 HB BK615 GW615 GE615 NB594_615 NB615_594 NB597_615 NB615_597 NB599_615 NB615_599
           clear hb hbox hg
           refine hK.out _ _ ⟨cz BK599 0, cz BK599 1, cz BK599 2, cz BK599 3, cz BK599 4, cz BK599 5, cz BK599 6, cz BK594 0, cz BK594 1, cz BK594 2, cz BK594 3, (bcel HB hw601_0 :), (bcel HB hw602_0 :)⟩ (fun hHeld => ?_)
           clear hK K
           refine norm_ (a' := ?_) ?_ ?_
           rotate_left
           ·show Act.put _ (some 13) _ = _
            simp only [Act.put, List.setIfInBounds_toArray, List.set_cons_zero, List.set_cons_succ, i64_w, i32_w]
            rfl
           exact norm_ (by first | (simp only [putAll, Act.put, List.setIfInBounds_toArray, List.set_cons_zero, List.set_cons_succ]; done) | (simp only [putAll, Act.put, List.setIfInBounds_toArray, List.set_cons_zero, List.set_cons_succ]; rfl)) (hJ17 (gb615) _ ⟨hHeld, (ub BK594.out), (ub BK597.out), (ub BK599.out), (ub BK615.out), GW615.out, GE615.out, NB594_615.out, NB615_594.out, NB597_615.out, NB615_597.out, NB599_615.out, NB615_599.out, (uc HB.out)⟩)
          ·skip
           refine box_step ?hg (N := 14) ?hd (cs := #[.int .u64 0, .int .u64 0, .int .u64 0, .int .i64 0, .int .i64 0, .bool false]) (t := 37) ?hr ?_; (case hd => rfl); (case hg => rfl); (case hr => first | (go_simp; done) | (go_simp; rfl))
           intro gb616 hg w37 hbox hb
           have n0_ := bw BK594 hb
           have n1_ := bw BK597 hb
           have n2_ := bw BK599 hb
           have n3_ := bs HB hb
           have n4_ := am (hbox)
           have n5_ := nz HB hg
           have n6_ := nz HB hg
           have n7_ := nl BK594 hg
           have n8_ := nr BK594 hg
           have n9_ := nl BK597 hg
           have n10_ := nr BK597 hg
           have n11_ := nl BK599 hg
           have n12_ := nr BK599 hg
           revert n0_ n1_ n2_ n3_ n4_ n5_ n6_ n7_ n8_ n9_ n10_ n11_ n12_
           clear BK594 BK597 BK599 HB
           intro BK594 BK597 BK599 HB BK616 GW616 GE616 NB594_616 NB616_594 NB597_616 NB616_597 NB599_616 NB616_599
           clear hb hbox hg
           refine hK.out _ _ ⟨cz BK599 0, cz BK599 1, cz BK599 2, cz BK599 3, cz BK599 4, cz BK599 5, cz BK599 6, cz BK594 0, cz BK594 1, cz BK594 2, cz BK594 3, (bcel HB hw601_0 :), (bcel HB hw602_0 :)⟩ (fun hHeld => ?_)
           clear hK K
           refine norm_ (a' := ?_) ?_ ?_
           rotate_left
           ·show Act.put _ (some 14) _ = _
            simp only [Act.put, List.setIfInBounds_toArray, List.set_cons_zero, List.set_cons_succ, i64_w, i32_w]
            rfl
           exact norm_ (by first | (simp only [putAll, Act.put, List.setIfInBounds_toArray, List.set_cons_zero, List.set_cons_succ]; done) | (simp only [putAll, Act.put, List.setIfInBounds_toArray, List.set_cons_zero, List.set_cons_succ]; rfl)) (hJ18 (gb616) _ ⟨hHeld, (ub BK594.out), (ub BK597.out), (ub BK599.out), (ub BK616.out), GW616.out, GE616.out, NB594_616.out, NB616_594.out, NB597_616.out, NB616_597.out, NB599_616.out, NB616_599.out, (uc HB.out)⟩)
         ·skip
          rintro gb616 w38 ⟨hS_, h0_, h1_, h2_, h3_, h4_, h5_, h6_, h7_, h8_, h9_, h10_, h11_, h12_⟩
          have n0_ : Aside0 (w38.heap[gb594]? = some (.cells #[.int .i64 a3_0, .int .i64 a3_1, .int .i64 a3_2, .int .i64 a3_3] 44 (0, 0))) := ⟨h0_⟩
          have n1_ : Aside0 (w38.heap[gb597]? = some (.cells #[.int .u64 ((rd_T72 ((rd_T28 l0 a3_0).f4) a3_1).f0), .int .i64 ((rd_T72 ((rd_T28 l0 a3_0).f4) a3_1).f1)] 72 (0, 0))) := ⟨h1_⟩
          have n2_ : Aside0 (w38.heap[gb599]? = some (.cells #[.string ((rd_T28 l0 a3_2).f0), .slice A598_1 ((rd_T28 l0 a3_2).f1).length c598_1, .slice A598_2 ((rd_T28 l0 a3_2).f2).length c598_2, .slice (some ad600) ((rd_T28 l0 a3_2).f3).length c598_3, .slice A598_4 ((rd_T28 l0 a3_2).f4).length c598_4, .slice A598_5 ((rd_T28 l0 a3_2).f5).length c598_5, .slice A598_6 ((rd_T28 l0 a3_2).f6).length c598_6] 28 (0, 0))) := ⟨h2_⟩
          have n3_ : Aside0 (w38.heap[gb616]? = some (.cells #[.int .u64 0, .int .u64 0, .int .u64 0, .int .i64 0, .int .i64 0, .bool false] 37 (0, 0))) := ⟨h3_⟩
          have n4_ : Aside0 (w.heap.size ≤ gb616) := ⟨h4_⟩
          have n5_ : Aside0 (w.heap.size ≤ gb616) := ⟨h5_⟩
          have n6_ : Aside0 (gb594 ≠ gb616) := ⟨h6_⟩
          have n7_ : Aside0 (gb616 ≠ gb594) := ⟨h7_⟩
          have n8_ : Aside0 (gb597 ≠ gb616) := ⟨h8_⟩
          have n9_ : Aside0 (gb616 ≠ gb597) := ⟨h9_⟩
          have n10_ : Aside0 (gb599 ≠ gb616) := ⟨h10_⟩
          have n11_ : Aside0 (gb616 ≠ gb599) := ⟨h11_⟩
          have n12_ : Aside0 (Below w.heap.size w w38) := ⟨h12_⟩
          clear BK594 BK597 BK599 HB h0_ h1_ h2_ h3_ h4_ h5_ h6_ h7_ h8_ h9_ h10_ h11_ h12_
          revert n0_ n1_ n2_ n3_ n4_ n5_ n6_ n7_ n8_ n9_ n10_ n11_ n12_
          intro BK594 BK597 BK599 BK616 GW616 GE616 NB594_616 NB616_594 NB597_616 NB616_597 NB599_616 NB616_599 HB
          have hHeld : w38.cell? ⟨gb599, 0, none⟩ = some (.string ((rd_T28 l0 a3_2).f0)) ∧ w38.cell? ⟨gb599, 1, none⟩ = some (.slice A598_1 ((rd_T28 l0 a3_2).f1).length c598_1) ∧ w38.cell? ⟨gb599, 2, none⟩ = some (.slice A598_2 ((rd_T28 l0 a3_2).f2).length c598_2) ∧ w38.cell? ⟨gb599, 3, none⟩ = some (.slice (some ad600) ((rd_T28 l0 a3_2).f3).length c598_3) ∧ w38.cell? ⟨gb599, 4, none⟩ = some (.slice A598_4 ((rd_T28 l0 a3_2).f4).length c598_4) ∧ w38.cell? ⟨gb599, 5, none⟩ = some (.slice A598_5 ((rd_T28 l0 a3_2).f5).length c598_5) ∧ w38.cell? ⟨gb599, 6, none⟩ = some (.slice A598_6 ((rd_T28 l0 a3_2).f6).length c598_6) ∧ w38.cell? ⟨gb594, 0, none⟩ = some (.int .i64 a3_0) ∧ w38.cell? ⟨gb594, 1, none⟩ = some (.int .i64 a3_1) ∧ w38.cell? ⟨gb594, 2, none⟩ = some (.int .i64 a3_2) ∧ w38.cell? ⟨gb594, 3, none⟩ = some (.int .i64 a3_3) ∧ w38.cell? (ad601.add (a3_2).toNat) = some (.int .u64 (rd l1 a3_2)) ∧ w38.cell? (ad602.add (a3_2).toNat) = some (.int .i64 (rd l2 a3_2)) := hS_
          refine norm_ (a' := ?_) ?_ ?_
          rotate_left
          ·simp only [putAll, Act.put, List.setIfInBounds_toArray, List.set_cons_zero, List.set_cons_succ]
           rfl
          refine two_ (i := 13) (j := 17) (Ni := some 57) (Nj := some 13) (bA 21 278527) (bA 21 401407) rfl rfl rfl rfl (two_of HT_.out (by kernel_rfl)) (by decide) (by decide) (fun K hK => ?_) (fun K hK => ?_)
          ·skip
           refine goes_ Try.func10 (by kernel_rfl) rfl #[.agg #[.string ((rd_T28 l0 a3_2).f0), .slice A598_1 ((rd_T28 l0 a3_2).f1).length c598_1, .slice A598_2 ((rd_T28 l0 a3_2).f2).length c598_2, .slice (some ad600) ((rd_T28 l0 a3_2).f3).length c598_3, .slice A598_4 ((rd_T28 l0 a3_2).f4).length c598_4, .slice A598_5 ((rd_T28 l0 a3_2).f5).length c598_5, .slice A598_6 ((rd_T28 l0 a3_2).f6).length c598_6], .int .u64 (rd l1 a3_2), .int .i64 a3_3, .int .i64 (rd l2 a3_2)] (by rfl) rfl rfl (by (try simp only [List.map_toArray, List.map_cons, List.map_nil]); first | done | rfl | (simp only [List.length_drop, List.length_take]; rfl)) ?_
           with_reducible refine (table_Entry.calls k ((rd_T28 l0 a3_2).f0) _ _ ((rd_T28 l0 a3_2).f1) _ _ ((rd_T28 l0 a3_2).f2) _ _ ((rd_T28 l0 a3_2).f3) _ _ ((rd_T28 l0 a3_2).f4) _ _ ((rd_T28 l0 a3_2).f5) _ _ ((rd_T28 l0 a3_2).f6) (rd l1 a3_2) a3_3 (rd l2 a3_2) t603 t604 t605 t606 t607 t608 t609 t610 t611 t612 t613 t614 _ ?side1 ?side2 ?side3 ?side4 ?side5 ?side6 ?side7 ?side8 ?side9 ?side10 ?side11 ?side12 A17.out).mono ?_
           (case side1 => exact us (Kd.C_below HR598_1.out HB.out))
           (case side2 => exact HC598_1.out)
           (case side3 => exact us (Kd.C_below HR598_2.out HB.out))
           (case side4 => exact HC598_2.out)
           (case side5 => exact us (Kd.C_below HR598_3.out HB.out))
           (case side6 => exact HC598_3.out)
           (case side7 => exact us (Kd.C_below HR598_4.out HB.out))
           (case side8 => exact HC598_4.out)
           (case side9 => exact us (Kd.C_below HR598_5.out HB.out))
           (case side10 => exact HC598_5.out)
           (case side11 => exact us (Kd.C_below HR598_6.out HB.out))
           (case side12 => exact HC598_6.out)
           rintro e w39 ⟨rfl, hb⟩
           refine ⟨_, rfl, ?_⟩
           have n0_ := bw BK594 hb
           have n1_ := bw BK597 hb
           have n2_ := bw BK599 hb
           have n3_ := bw BK616 hb
           have n4_ := bs HB hb
           revert n0_ n1_ n2_ n3_ n4_
           clear BK594 BK597 BK599 BK616 HB
           intro BK594 BK597 BK599 BK616 HB
           (try clear hb)
           (try clear hb2)
           (try clear hk)
           (try clear hi)
           refine hK.out _ _ ⟨cz BK599 0, cz BK599 1, cz BK599 2, cz BK599 3, cz BK599 4, cz BK599 5, cz BK599 6, cz BK594 0, cz BK594 1, cz BK594 2, cz BK594 3, (bcel HB hw601_0 :), (bcel HB hw602_0 :)⟩ (fun hHeld => ?_)
           clear hK K
           refine norm_ (a' := ?_) ?_ ?_
           rotate_left
           ·show Act.put _ (some 57) _ = _
            simp only [Act.put, List.setIfInBounds_toArray, List.set_cons_zero, List.set_cons_succ, i64_w, i32_w]
            rfl
           refine pv 14 43 (bA 21 294911) HT_ ?_
           refine pv 15 58 (bA 21 327679) HT_ ?_
           refine pv 16 59 (bA 21 393215) HT_ ?_
           exact norm_ (by first | (simp only [putAll, Act.put, List.setIfInBounds_toArray, List.set_cons_zero, List.set_cons_succ]; done) | (simp only [putAll, Act.put, List.setIfInBounds_toArray, List.set_cons_zero, List.set_cons_succ]; rfl)) (hJ13_18 (gb616) _ ⟨hHeld, (ub BK594.out), (ub BK597.out), (ub BK599.out), (ub BK616.out), GW616.out, GE616.out, NB594_616.out, NB616_594.out, NB597_616.out, NB616_597.out, NB599_616.out, NB616_599.out, (uc HB.out)⟩)
          ·skip
           refine box_step ?hg (N := 13) ?hd (cs := #[.int .u64 0, .int .u64 0, .int .u64 0, .int .i64 0, .int .i64 0, .bool false]) (t := 37) ?hr ?_; (case hd => rfl); (case hg => rfl); (case hr => first | (go_simp; done) | (go_simp; rfl))
           intro gb615 hg w39 hbox hb
           have n0_ := bw BK594 hb
           have n1_ := bw BK597 hb
           have n2_ := bw BK599 hb
           have n3_ := bw BK616 hb
           have n4_ := bs HB hb
           have n5_ := am (hbox)
           have n6_ := nz HB hg
           have n7_ := nz HB hg
           have n8_ := nl BK594 hg
           have n9_ := nr BK594 hg
           have n10_ := nl BK597 hg
           have n11_ := nr BK597 hg
           have n12_ := nl BK599 hg
           have n13_ := nr BK599 hg
           have n14_ := nl BK616 hg
           have n15_ := nr BK616 hg
           revert n0_ n1_ n2_ n3_ n4_ n5_ n6_ n7_ n8_ n9_ n10_ n11_ n12_ n13_ n14_ n15_
           clear BK594 BK597 BK599 BK616 HB
           intro BK594 BK597 BK599 BK616 HB BK615 GW615 GE615 NB594_615 NB615_594 NB597_615 NB615_597 NB599_615 NB615_599 NB616_615 NB615_616
           clear hb hbox hg
           refine hK.out _ _ ⟨cz BK599 0, cz BK599 1, cz BK599 2, cz BK599 3, cz BK599 4, cz BK599 5, cz BK599 6, cz BK594 0, cz BK594 1, cz BK594 2, cz BK594 3, (bcel HB hw601_0 :), (bcel HB hw602_0 :)⟩ (fun hHeld => ?_)
           clear hK K
           refine norm_ (a' := ?_) ?_ ?_
           rotate_left
           ·show Act.put _ (some 13) _ = _
            simp only [Act.put, List.setIfInBounds_toArray, List.set_cons_zero, List.set_cons_succ, i64_w, i32_w]
            rfl
           exact norm_ (by first | (simp only [putAll, Act.put, List.setIfInBounds_toArray, List.set_cons_zero, List.set_cons_succ]; done) | (simp only [putAll, Act.put, List.setIfInBounds_toArray, List.set_cons_zero, List.set_cons_succ]; rfl)) (hJ17_18 (gb615, gb616) _ ⟨hHeld, (ub BK594.out), (ub BK597.out), (ub BK599.out), (ub BK615.out), (ub BK616.out), GW615.out, GE615.out, NB594_615.out, NB615_594.out, NB597_615.out, NB615_597.out, NB599_615.out, NB615_599.out, NB616_615.out, NB615_616.out, GW616.out, GE616.out, NB594_616.out, NB616_594.out, NB597_616.out, NB616_597.out, NB599_616.out, NB616_599.out, (uc HB.out)⟩)
        ·skip
         rintro gb615 w38 ⟨hS_, h0_, h1_, h2_, h3_, h4_, h5_, h6_, h7_, h8_, h9_, h10_, h11_, h12_⟩
         have n0_ : Aside0 (w38.heap[gb594]? = some (.cells #[.int .i64 a3_0, .int .i64 a3_1, .int .i64 a3_2, .int .i64 a3_3] 44 (0, 0))) := ⟨h0_⟩
         have n1_ : Aside0 (w38.heap[gb597]? = some (.cells #[.int .u64 ((rd_T72 ((rd_T28 l0 a3_0).f4) a3_1).f0), .int .i64 ((rd_T72 ((rd_T28 l0 a3_0).f4) a3_1).f1)] 72 (0, 0))) := ⟨h1_⟩
         have n2_ : Aside0 (w38.heap[gb599]? = some (.cells #[.string ((rd_T28 l0 a3_2).f0), .slice A598_1 ((rd_T28 l0 a3_2).f1).length c598_1, .slice A598_2 ((rd_T28 l0 a3_2).f2).length c598_2, .slice (some ad600) ((rd_T28 l0 a3_2).f3).length c598_3, .slice A598_4 ((rd_T28 l0 a3_2).f4).length c598_4, .slice A598_5 ((rd_T28 l0 a3_2).f5).length c598_5, .slice A598_6 ((rd_T28 l0 a3_2).f6).length c598_6] 28 (0, 0))) := ⟨h2_⟩
         have n3_ : Aside0 (w38.heap[gb615]? = some (.cells #[.int .u64 0, .int .u64 0, .int .u64 0, .int .i64 0, .int .i64 0, .bool false] 37 (0, 0))) := ⟨h3_⟩
         have n4_ : Aside0 (w.heap.size ≤ gb615) := ⟨h4_⟩
         have n5_ : Aside0 (w.heap.size ≤ gb615) := ⟨h5_⟩
         have n6_ : Aside0 (gb594 ≠ gb615) := ⟨h6_⟩
         have n7_ : Aside0 (gb615 ≠ gb594) := ⟨h7_⟩
         have n8_ : Aside0 (gb597 ≠ gb615) := ⟨h8_⟩
         have n9_ : Aside0 (gb615 ≠ gb597) := ⟨h9_⟩
         have n10_ : Aside0 (gb599 ≠ gb615) := ⟨h10_⟩
         have n11_ : Aside0 (gb615 ≠ gb599) := ⟨h11_⟩
         have n12_ : Aside0 (Below w.heap.size w w38) := ⟨h12_⟩
         clear BK594 BK597 BK599 HB h0_ h1_ h2_ h3_ h4_ h5_ h6_ h7_ h8_ h9_ h10_ h11_ h12_
         revert n0_ n1_ n2_ n3_ n4_ n5_ n6_ n7_ n8_ n9_ n10_ n11_ n12_
         intro BK594 BK597 BK599 BK615 GW615 GE615 NB594_615 NB615_594 NB597_615 NB615_597 NB599_615 NB615_599 HB
         have hHeld : w38.cell? ⟨gb599, 0, none⟩ = some (.string ((rd_T28 l0 a3_2).f0)) ∧ w38.cell? ⟨gb599, 1, none⟩ = some (.slice A598_1 ((rd_T28 l0 a3_2).f1).length c598_1) ∧ w38.cell? ⟨gb599, 2, none⟩ = some (.slice A598_2 ((rd_T28 l0 a3_2).f2).length c598_2) ∧ w38.cell? ⟨gb599, 3, none⟩ = some (.slice (some ad600) ((rd_T28 l0 a3_2).f3).length c598_3) ∧ w38.cell? ⟨gb599, 4, none⟩ = some (.slice A598_4 ((rd_T28 l0 a3_2).f4).length c598_4) ∧ w38.cell? ⟨gb599, 5, none⟩ = some (.slice A598_5 ((rd_T28 l0 a3_2).f5).length c598_5) ∧ w38.cell? ⟨gb599, 6, none⟩ = some (.slice A598_6 ((rd_T28 l0 a3_2).f6).length c598_6) ∧ w38.cell? ⟨gb594, 0, none⟩ = some (.int .i64 a3_0) ∧ w38.cell? ⟨gb594, 1, none⟩ = some (.int .i64 a3_1) ∧ w38.cell? ⟨gb594, 2, none⟩ = some (.int .i64 a3_2) ∧ w38.cell? ⟨gb594, 3, none⟩ = some (.int .i64 a3_3) ∧ w38.cell? (ad601.add (a3_2).toNat) = some (.int .u64 (rd l1 a3_2)) ∧ w38.cell? (ad602.add (a3_2).toNat) = some (.int .i64 (rd l2 a3_2)) := hS_
         refine norm_ (a' := ?_) ?_ ?_
         rotate_left
         ·simp only [putAll, Act.put, List.setIfInBounds_toArray, List.set_cons_zero, List.set_cons_succ]
          rfl
         refine two_ (i := 13) (j := 18) (Ni := some 57) (Nj := some 14) (bA 21 147455) (bA 21 401407) rfl rfl rfl rfl (two_of HT_.out (by kernel_rfl)) (by decide) (by decide) (fun K hK => ?_) (fun K hK => ?_)
         ·skip
          refine goes_ Try.func10 (by kernel_rfl) rfl #[.agg #[.string ((rd_T28 l0 a3_2).f0), .slice A598_1 ((rd_T28 l0 a3_2).f1).length c598_1, .slice A598_2 ((rd_T28 l0 a3_2).f2).length c598_2, .slice (some ad600) ((rd_T28 l0 a3_2).f3).length c598_3, .slice A598_4 ((rd_T28 l0 a3_2).f4).length c598_4, .slice A598_5 ((rd_T28 l0 a3_2).f5).length c598_5, .slice A598_6 ((rd_T28 l0 a3_2).f6).length c598_6], .int .u64 (rd l1 a3_2), .int .i64 a3_3, .int .i64 (rd l2 a3_2)] (by rfl) rfl rfl (by (try simp only [List.map_toArray, List.map_cons, List.map_nil]); first | done | rfl | (simp only [List.length_drop, List.length_take]; rfl)) ?_
          with_reducible refine (table_Entry.calls k ((rd_T28 l0 a3_2).f0) _ _ ((rd_T28 l0 a3_2).f1) _ _ ((rd_T28 l0 a3_2).f2) _ _ ((rd_T28 l0 a3_2).f3) _ _ ((rd_T28 l0 a3_2).f4) _ _ ((rd_T28 l0 a3_2).f5) _ _ ((rd_T28 l0 a3_2).f6) (rd l1 a3_2) a3_3 (rd l2 a3_2) t603 t604 t605 t606 t607 t608 t609 t610 t611 t612 t613 t614 _ ?side1 ?side2 ?side3 ?side4 ?side5 ?side6 ?side7 ?side8 ?side9 ?side10 ?side11 ?side12 A17.out).mono ?_
          (case side1 => exact us (Kd.C_below HR598_1.out HB.out))
          (case side2 => exact HC598_1.out)
          (case side3 => exact us (Kd.C_below HR598_2.out HB.out))
          (case side4 => exact HC598_2.out)
          (case side5 => exact us (Kd.C_below HR598_3.out HB.out))
          (case side6 => exact HC598_3.out)
          (case side7 => exact us (Kd.C_below HR598_4.out HB.out))
          (case side8 => exact HC598_4.out)
          (case side9 => exact us (Kd.C_below HR598_5.out HB.out))
          (case side10 => exact HC598_5.out)
          (case side11 => exact us (Kd.C_below HR598_6.out HB.out))
          (case side12 => exact HC598_6.out)
          rintro e w39 ⟨rfl, hb⟩
          refine ⟨_, rfl, ?_⟩
          have n0_ := bw BK594 hb
          have n1_ := bw BK597 hb
          have n2_ := bw BK599 hb
          have n3_ := bw BK615 hb
          have n4_ := bs HB hb
          revert n0_ n1_ n2_ n3_ n4_
          clear BK594 BK597 BK599 BK615 HB
          intro BK594 BK597 BK599 BK615 HB
          (try clear hb)
          (try clear hb2)
          (try clear hk)
          (try clear hi)
          refine hK.out _ _ ⟨cz BK599 0, cz BK599 1, cz BK599 2, cz BK599 3, cz BK599 4, cz BK599 5, cz BK599 6, cz BK594 0, cz BK594 1, cz BK594 2, cz BK594 3, (bcel HB hw601_0 :), (bcel HB hw602_0 :)⟩ (fun hHeld => ?_)
          clear hK K
          refine norm_ (a' := ?_) ?_ ?_
          rotate_left
          ·show Act.put _ (some 57) _ = _
           simp only [Act.put, List.setIfInBounds_toArray, List.set_cons_zero, List.set_cons_succ, i64_w, i32_w]
           rfl
          refine pv 14 43 (bA 21 163839) HT_ ?_
          refine pv 15 58 (bA 21 196607) HT_ ?_
          refine pv 16 59 (bA 21 262143) HT_ ?_
          exact norm_ (by first | (simp only [putAll, Act.put, List.setIfInBounds_toArray, List.set_cons_zero, List.set_cons_succ]; done) | (simp only [putAll, Act.put, List.setIfInBounds_toArray, List.set_cons_zero, List.set_cons_succ]; rfl)) (hJ13_17 (gb615) _ ⟨hHeld, (ub BK594.out), (ub BK597.out), (ub BK599.out), (ub BK615.out), GW615.out, GE615.out, NB594_615.out, NB615_594.out, NB597_615.out, NB615_597.out, NB599_615.out, NB615_599.out, (uc HB.out)⟩)
         ·skip
          refine box_step ?hg (N := 14) ?hd (cs := #[.int .u64 0, .int .u64 0, .int .u64 0, .int .i64 0, .int .i64 0, .bool false]) (t := 37) ?hr ?_; (case hd => rfl); (case hg => rfl); (case hr => first | (go_simp; done) | (go_simp; rfl))
          intro gb616 hg w39 hbox hb
          have n0_ := bw BK594 hb
          have n1_ := bw BK597 hb
          have n2_ := bw BK599 hb
          have n3_ := bw BK615 hb
          have n4_ := bs HB hb
          have n5_ := am (hbox)
          have n6_ := nz HB hg
          have n7_ := nz HB hg
          have n8_ := nl BK594 hg
          have n9_ := nr BK594 hg
          have n10_ := nl BK597 hg
          have n11_ := nr BK597 hg
          have n12_ := nl BK599 hg
          have n13_ := nr BK599 hg
          have n14_ := nl BK615 hg
          have n15_ := nr BK615 hg
          revert n0_ n1_ n2_ n3_ n4_ n5_ n6_ n7_ n8_ n9_ n10_ n11_ n12_ n13_ n14_ n15_
          clear BK594 BK597 BK599 BK615 HB
          intro BK594 BK597 BK599 BK615 HB BK616 GW616 GE616 NB594_616 NB616_594 NB597_616 NB616_597 NB599_616 NB616_599 NB615_616 NB616_615
          clear hb hbox hg
          refine hK.out _ _ ⟨cz BK599 0, cz BK599 1, cz BK599 2, cz BK599 3, cz BK599 4, cz BK599 5, cz BK599 6, cz BK594 0, cz BK594 1, cz BK594 2, cz BK594 3, (bcel HB hw601_0 :), (bcel HB hw602_0 :)⟩ (fun hHeld => ?_)
          clear hK K
          refine norm_ (a' := ?_) ?_ ?_
          rotate_left
          ·show Act.put _ (some 14) _ = _
           simp only [Act.put, List.setIfInBounds_toArray, List.set_cons_zero, List.set_cons_succ, i64_w, i32_w]
           rfl
          exact norm_ (by first | (simp only [putAll, Act.put, List.setIfInBounds_toArray, List.set_cons_zero, List.set_cons_succ]; done) | (simp only [putAll, Act.put, List.setIfInBounds_toArray, List.set_cons_zero, List.set_cons_succ]; rfl)) (hJ17_18 (gb615, gb616) _ ⟨hHeld, (ub BK594.out), (ub BK597.out), (ub BK599.out), (ub BK615.out), (ub BK616.out), GW615.out, GE615.out, NB594_615.out, NB615_594.out, NB597_615.out, NB615_597.out, NB599_615.out, NB615_599.out, NB616_615.out, NB615_616.out, GW616.out, GE616.out, NB594_616.out, NB616_594.out, NB597_616.out, NB616_597.out, NB599_616.out, NB616_599.out, (uc HB.out)⟩)
       ·skip
        rintro _ w38 ⟨hS_, h0_, h1_, h2_, h3_⟩
        have n0_ : Aside0 (w38.heap[gb594]? = some (.cells #[.int .i64 a3_0, .int .i64 a3_1, .int .i64 a3_2, .int .i64 a3_3] 44 (0, 0))) := ⟨h0_⟩
        have n1_ : Aside0 (w38.heap[gb597]? = some (.cells #[.int .u64 ((rd_T72 ((rd_T28 l0 a3_0).f4) a3_1).f0), .int .i64 ((rd_T72 ((rd_T28 l0 a3_0).f4) a3_1).f1)] 72 (0, 0))) := ⟨h1_⟩
        have n2_ : Aside0 (w38.heap[gb599]? = some (.cells #[.string ((rd_T28 l0 a3_2).f0), .slice A598_1 ((rd_T28 l0 a3_2).f1).length c598_1, .slice A598_2 ((rd_T28 l0 a3_2).f2).length c598_2, .slice (some ad600) ((rd_T28 l0 a3_2).f3).length c598_3, .slice A598_4 ((rd_T28 l0 a3_2).f4).length c598_4, .slice A598_5 ((rd_T28 l0 a3_2).f5).length c598_5, .slice A598_6 ((rd_T28 l0 a3_2).f6).length c598_6] 28 (0, 0))) := ⟨h2_⟩
        have n3_ : Aside0 (Below w.heap.size w w38) := ⟨h3_⟩
        clear BK594 BK597 BK599 HB h0_ h1_ h2_ h3_
        revert n0_ n1_ n2_ n3_
        intro BK594 BK597 BK599 HB
        have hHeld : w38.cell? ⟨gb599, 0, none⟩ = some (.string ((rd_T28 l0 a3_2).f0)) ∧ w38.cell? ⟨gb599, 1, none⟩ = some (.slice A598_1 ((rd_T28 l0 a3_2).f1).length c598_1) ∧ w38.cell? ⟨gb599, 2, none⟩ = some (.slice A598_2 ((rd_T28 l0 a3_2).f2).length c598_2) ∧ w38.cell? ⟨gb599, 3, none⟩ = some (.slice (some ad600) ((rd_T28 l0 a3_2).f3).length c598_3) ∧ w38.cell? ⟨gb599, 4, none⟩ = some (.slice A598_4 ((rd_T28 l0 a3_2).f4).length c598_4) ∧ w38.cell? ⟨gb599, 5, none⟩ = some (.slice A598_5 ((rd_T28 l0 a3_2).f5).length c598_5) ∧ w38.cell? ⟨gb599, 6, none⟩ = some (.slice A598_6 ((rd_T28 l0 a3_2).f6).length c598_6) ∧ w38.cell? ⟨gb594, 0, none⟩ = some (.int .i64 a3_0) ∧ w38.cell? ⟨gb594, 1, none⟩ = some (.int .i64 a3_1) ∧ w38.cell? ⟨gb594, 2, none⟩ = some (.int .i64 a3_2) ∧ w38.cell? ⟨gb594, 3, none⟩ = some (.int .i64 a3_3) ∧ w38.cell? (ad601.add (a3_2).toNat) = some (.int .u64 (rd l1 a3_2)) ∧ w38.cell? (ad602.add (a3_2).toNat) = some (.int .i64 (rd l2 a3_2)) := hS_
        refine norm_ (a' := ?_) ?_ ?_
        rotate_left
        ·simp only [putAll, Act.put, List.setIfInBounds_toArray, List.set_cons_zero, List.set_cons_succ]
         rfl
        refine two_ (i := 17) (j := 18) (Ni := some 13) (Nj := some 14) (bA 21 262143) (bA 21 393215) rfl rfl rfl rfl (two_of HT_.out (by kernel_rfl)) (by decide) (by decide) (fun K hK => ?_) (fun K hK => ?_)
        ·skip
         refine box_step ?hg (N := 13) ?hd (cs := #[.int .u64 0, .int .u64 0, .int .u64 0, .int .i64 0, .int .i64 0, .bool false]) (t := 37) ?hr ?_; (case hd => rfl); (case hg => rfl); (case hr => first | (go_simp; done) | (go_simp; rfl))
         intro gb615 hg w39 hbox hb
         have n0_ := bw BK594 hb
         have n1_ := bw BK597 hb
         have n2_ := bw BK599 hb
         have n3_ := bs HB hb
         have n4_ := am (hbox)
         have n5_ := nz HB hg
         have n6_ := nz HB hg
         have n7_ := nl BK594 hg
         have n8_ := nr BK594 hg
         have n9_ := nl BK597 hg
         have n10_ := nr BK597 hg
         have n11_ := nl BK599 hg
         have n12_ := nr BK599 hg
         revert n0_ n1_ n2_ n3_ n4_ n5_ n6_ n7_ n8_ n9_ n10_ n11_ n12_
         clear BK594 BK597 BK599 HB
         intro BK594 BK597 BK599 HB BK615 GW615 GE615 NB594_615 NB615_594 NB597_615 NB615_597 NB599_615 NB615_599
         clear hb hbox hg
         refine hK.out _ _ ⟨cz BK599 0, cz BK599 1, cz BK599 2, cz BK599 3, cz BK599 4, cz BK599 5, cz BK599 6, cz BK594 0, cz BK594 1, cz BK594 2, cz BK594 3, (bcel HB hw601_0 :), (bcel HB hw602_0 :)⟩ (fun hHeld => ?_)
         clear hK K
         refine norm_ (a' := ?_) ?_ ?_
         rotate_left
         ·show Act.put _ (some 13) _ = _
          simp only [Act.put, List.setIfInBounds_toArray, List.set_cons_zero, List.set_cons_succ, i64_w, i32_w]
          rfl
         exact norm_ (by first | (simp only [putAll, Act.put, List.setIfInBounds_toArray, List.set_cons_zero, List.set_cons_succ]; done) | (simp only [putAll, Act.put, List.setIfInBounds_toArray, List.set_cons_zero, List.set_cons_succ]; rfl)) (hJ13_17 (gb615) _ ⟨hHeld, (ub BK594.out), (ub BK597.out), (ub BK599.out), (ub BK615.out), GW615.out, GE615.out, NB594_615.out, NB615_594.out, NB597_615.out, NB615_597.out, NB599_615.out, NB615_599.out, (uc HB.out)⟩)
        ·skip
         refine box_step ?hg (N := 14) ?hd (cs := #[.int .u64 0, .int .u64 0, .int .u64 0, .int .i64 0, .int .i64 0, .bool false]) (t := 37) ?hr ?_; (case hd => rfl); (case hg => rfl); (case hr => first | (go_simp; done) | (go_simp; rfl))
         intro gb616 hg w39 hbox hb
         have n0_ := bw BK594 hb
         have n1_ := bw BK597 hb
         have n2_ := bw BK599 hb
         have n3_ := bs HB hb
         have n4_ := am (hbox)
         have n5_ := nz HB hg
         have n6_ := nz HB hg
         have n7_ := nl BK594 hg
         have n8_ := nr BK594 hg
         have n9_ := nl BK597 hg
         have n10_ := nr BK597 hg
         have n11_ := nl BK599 hg
         have n12_ := nr BK599 hg
         revert n0_ n1_ n2_ n3_ n4_ n5_ n6_ n7_ n8_ n9_ n10_ n11_ n12_
         clear BK594 BK597 BK599 HB
         intro BK594 BK597 BK599 HB BK616 GW616 GE616 NB594_616 NB616_594 NB597_616 NB616_597 NB599_616 NB616_599
         clear hb hbox hg
         refine hK.out _ _ ⟨cz BK599 0, cz BK599 1, cz BK599 2, cz BK599 3, cz BK599 4, cz BK599 5, cz BK599 6, cz BK594 0, cz BK594 1, cz BK594 2, cz BK594 3, (bcel HB hw601_0 :), (bcel HB hw602_0 :)⟩ (fun hHeld => ?_)
         clear hK K
         refine norm_ (a' := ?_) ?_ ?_
         rotate_left
         ·show Act.put _ (some 14) _ = _
          simp only [Act.put, List.setIfInBounds_toArray, List.set_cons_zero, List.set_cons_succ, i64_w, i32_w]
          rfl
         exact norm_ (by first | (simp only [putAll, Act.put, List.setIfInBounds_toArray, List.set_cons_zero, List.set_cons_succ]; done) | (simp only [putAll, Act.put, List.setIfInBounds_toArray, List.set_cons_zero, List.set_cons_succ]; rfl)) (hJ13_18 (gb616) _ ⟨hHeld, (ub BK594.out), (ub BK597.out), (ub BK599.out), (ub BK616.out), GW616.out, GE616.out, NB594_616.out, NB616_594.out, NB597_616.out, NB616_597.out, NB599_616.out, NB616_599.out, (uc HB.out)⟩)
      ·skip
       rintro ⟨gb615, gb616⟩ w39 ⟨hS_, h0_, h1_, h2_, h3_, h4_, h5_, h6_, h7_, h8_, h9_, h10_, h11_, h12_, h13_, h14_, h15_, h16_, h17_, h18_, h19_, h20_, h21_, h22_, h23_⟩
       have n0_ : Aside0 (w39.heap[gb594]? = some (.cells #[.int .i64 a3_0, .int .i64 a3_1, .int .i64 a3_2, .int .i64 a3_3] 44 (0, 0))) := ⟨h0_⟩
       have n1_ : Aside0 (w39.heap[gb597]? = some (.cells #[.int .u64 ((rd_T72 ((rd_T28 l0 a3_0).f4) a3_1).f0), .int .i64 ((rd_T72 ((rd_T28 l0 a3_0).f4) a3_1).f1)] 72 (0, 0))) := ⟨h1_⟩
       have n2_ : Aside0 (w39.heap[gb599]? = some (.cells #[.string ((rd_T28 l0 a3_2).f0), .slice A598_1 ((rd_T28 l0 a3_2).f1).length c598_1, .slice A598_2 ((rd_T28 l0 a3_2).f2).length c598_2, .slice (some ad600) ((rd_T28 l0 a3_2).f3).length c598_3, .slice A598_4 ((rd_T28 l0 a3_2).f4).length c598_4, .slice A598_5 ((rd_T28 l0 a3_2).f5).length c598_5, .slice A598_6 ((rd_T28 l0 a3_2).f6).length c598_6] 28 (0, 0))) := ⟨h2_⟩
       have n3_ : Aside0 (w39.heap[gb615]? = some (.cells #[.int .u64 0, .int .u64 0, .int .u64 0, .int .i64 0, .int .i64 0, .bool false] 37 (0, 0))) := ⟨h3_⟩
       have n4_ : Aside0 (w39.heap[gb616]? = some (.cells #[.int .u64 0, .int .u64 0, .int .u64 0, .int .i64 0, .int .i64 0, .bool false] 37 (0, 0))) := ⟨h4_⟩
       have n5_ : Aside0 (w.heap.size ≤ gb615) := ⟨h5_⟩
       have n6_ : Aside0 (w.heap.size ≤ gb615) := ⟨h6_⟩
       have n7_ : Aside0 (gb594 ≠ gb615) := ⟨h7_⟩
       have n8_ : Aside0 (gb615 ≠ gb594) := ⟨h8_⟩
       have n9_ : Aside0 (gb597 ≠ gb615) := ⟨h9_⟩
       have n10_ : Aside0 (gb615 ≠ gb597) := ⟨h10_⟩
       have n11_ : Aside0 (gb599 ≠ gb615) := ⟨h11_⟩
       have n12_ : Aside0 (gb615 ≠ gb599) := ⟨h12_⟩
       have n13_ : Aside0 (gb616 ≠ gb615) := ⟨h13_⟩
       have n14_ : Aside0 (gb615 ≠ gb616) := ⟨h14_⟩
       have n15_ : Aside0 (w.heap.size ≤ gb616) := ⟨h15_⟩
       have n16_ : Aside0 (w.heap.size ≤ gb616) := ⟨h16_⟩
       have n17_ : Aside0 (gb594 ≠ gb616) := ⟨h17_⟩
       have n18_ : Aside0 (gb616 ≠ gb594) := ⟨h18_⟩
       have n19_ : Aside0 (gb597 ≠ gb616) := ⟨h19_⟩
       have n20_ : Aside0 (gb616 ≠ gb597) := ⟨h20_⟩
       have n21_ : Aside0 (gb599 ≠ gb616) := ⟨h21_⟩
       have n22_ : Aside0 (gb616 ≠ gb599) := ⟨h22_⟩
       have n23_ : Aside0 (Below w.heap.size w w39) := ⟨h23_⟩
       clear BK594 BK597 BK599 HB h0_ h1_ h2_ h3_ h4_ h5_ h6_ h7_ h8_ h9_ h10_ h11_ h12_ h13_ h14_ h15_ h16_ h17_ h18_ h19_ h20_ h21_ h22_ h23_
       revert n0_ n1_ n2_ n3_ n4_ n5_ n6_ n7_ n8_ n9_ n10_ n11_ n12_ n13_ n14_ n15_ n16_ n17_ n18_ n19_ n20_ n21_ n22_ n23_
       intro BK594 BK597 BK599 BK615 BK616 GW615 GE615 NB594_615 NB615_594 NB597_615 NB615_597 NB599_615 NB615_599 NB616_615 NB615_616 GW616 GE616 NB594_616 NB616_594 NB597_616 NB616_597 NB599_616 NB616_599 HB
       have hHeld : w39.cell? ⟨gb599, 0, none⟩ = some (.string ((rd_T28 l0 a3_2).f0)) ∧ w39.cell? ⟨gb599, 1, none⟩ = some (.slice A598_1 ((rd_T28 l0 a3_2).f1).length c598_1) ∧ w39.cell? ⟨gb599, 2, none⟩ = some (.slice A598_2 ((rd_T28 l0 a3_2).f2).length c598_2) ∧ w39.cell? ⟨gb599, 3, none⟩ = some (.slice (some ad600) ((rd_T28 l0 a3_2).f3).length c598_3) ∧ w39.cell? ⟨gb599, 4, none⟩ = some (.slice A598_4 ((rd_T28 l0 a3_2).f4).length c598_4) ∧ w39.cell? ⟨gb599, 5, none⟩ = some (.slice A598_5 ((rd_T28 l0 a3_2).f5).length c598_5) ∧ w39.cell? ⟨gb599, 6, none⟩ = some (.slice A598_6 ((rd_T28 l0 a3_2).f6).length c598_6) ∧ w39.cell? ⟨gb594, 0, none⟩ = some (.int .i64 a3_0) ∧ w39.cell? ⟨gb594, 1, none⟩ = some (.int .i64 a3_1) ∧ w39.cell? ⟨gb594, 2, none⟩ = some (.int .i64 a3_2) ∧ w39.cell? ⟨gb594, 3, none⟩ = some (.int .i64 a3_3) ∧ w39.cell? (ad601.add (a3_2).toNat) = some (.int .u64 (rd l1 a3_2)) ∧ w39.cell? (ad602.add (a3_2).toNat) = some (.int .i64 (rd l2 a3_2)) := hS_
       refine norm_ (a' := ?_) ?_ ?_
       rotate_left
       ·simp only [putAll, Act.put, List.setIfInBounds_toArray, List.set_cons_zero, List.set_cons_succ]
        rfl
       refine one_ (i := 13) (N := some 57) (bA 21 409599) rfl rfl (one_of HT_.out (by kernel_rfl)) (by decide) (fun K hK => ?_)
       refine goes_ Try.func10 (by kernel_rfl) rfl #[.agg #[.string ((rd_T28 l0 a3_2).f0), .slice A598_1 ((rd_T28 l0 a3_2).f1).length c598_1, .slice A598_2 ((rd_T28 l0 a3_2).f2).length c598_2, .slice (some ad600) ((rd_T28 l0 a3_2).f3).length c598_3, .slice A598_4 ((rd_T28 l0 a3_2).f4).length c598_4, .slice A598_5 ((rd_T28 l0 a3_2).f5).length c598_5, .slice A598_6 ((rd_T28 l0 a3_2).f6).length c598_6], .int .u64 (rd l1 a3_2), .int .i64 a3_3, .int .i64 (rd l2 a3_2)] (by rfl) rfl rfl (by (try simp only [List.map_toArray, List.map_cons, List.map_nil]); first | done | rfl | (simp only [List.length_drop, List.length_take]; rfl)) ?_
       with_reducible refine (table_Entry.calls k ((rd_T28 l0 a3_2).f0) _ _ ((rd_T28 l0 a3_2).f1) _ _ ((rd_T28 l0 a3_2).f2) _ _ ((rd_T28 l0 a3_2).f3) _ _ ((rd_T28 l0 a3_2).f4) _ _ ((rd_T28 l0 a3_2).f5) _ _ ((rd_T28 l0 a3_2).f6) (rd l1 a3_2) a3_3 (rd l2 a3_2) t603 t604 t605 t606 t607 t608 t609 t610 t611 t612 t613 t614 _ ?side1 ?side2 ?side3 ?side4 ?side5 ?side6 ?side7 ?side8 ?side9 ?side10 ?side11 ?side12 A17.out).mono ?_
       (case side1 => exact us (Kd.C_below HR598_1.out HB.out))
       (case side2 => exact HC598_1.out)
       (case side3 => exact us (Kd.C_below HR598_2.out HB.out))
       (case side4 => exact HC598_2.out)
       (case side5 => exact us (Kd.C_below HR598_3.out HB.out))
       (case side6 => exact HC598_3.out)
       (case side7 => exact us (Kd.C_below HR598_4.out HB.out))
       (case side8 => exact HC598_4.out)
       (case side9 => exact us (Kd.C_below HR598_5.out HB.out))
       (case side10 => exact HC598_5.out)
       (case side11 => exact us (Kd.C_below HR598_6.out HB.out))
       (case side12 => exact HC598_6.out)
       rintro e w40 ⟨rfl, hb⟩
       refine ⟨_, rfl, ?_⟩
       have n0_ := bw BK594 hb
       have n1_ := bw BK597 hb
       have n2_ := bw BK599 hb
       have n3_ := bw BK615 hb
       have n4_ := bw BK616 hb
       have n5_ := bs HB hb
       revert n0_ n1_ n2_ n3_ n4_ n5_
       clear BK594 BK597 BK599 BK615 BK616 HB
       intro BK594 BK597 BK599 BK615 BK616 HB
       (try clear hb)
       (try clear hb2)
       (try clear hk)
       (try clear hi)
       refine hK.out _ _ ⟨cz BK599 0, cz BK599 1, cz BK599 2, cz BK599 3, cz BK599 4, cz BK599 5, cz BK599 6, cz BK594 0, cz BK594 1, cz BK594 2, cz BK594 3, (bcel HB hw601_0 :), (bcel HB hw602_0 :)⟩ (fun hHeld => ?_)
       clear hK K
       refine norm_ (a' := ?_) ?_ ?_
       rotate_left
       ·show Act.put _ (some 57) _ = _
        simp only [Act.put, List.setIfInBounds_toArray, List.set_cons_zero, List.set_cons_succ, i64_w, i32_w]
        rfl
       refine pv 14 43 (bA 21 425983) HT_ ?_
       refine pv 15 58 (bA 21 458751) HT_ ?_
       refine pv 16 59 (bA 21 524287) HT_ ?_
       exact norm_ (by first | (simp only [putAll, Act.put, List.setIfInBounds_toArray, List.set_cons_zero, List.set_cons_succ]; done) | (simp only [putAll, Act.put, List.setIfInBounds_toArray, List.set_cons_zero, List.set_cons_succ]; rfl)) (hJ13_17_18 (gb615, gb616) _ ⟨hHeld, (ub BK594.out), (ub BK597.out), (ub BK599.out), (ub BK615.out), (ub BK616.out), GW615.out, GE615.out, NB594_615.out, NB615_594.out, NB597_615.out, NB615_597.out, NB599_615.out, NB615_599.out, NB616_615.out, NB615_616.out, GW616.out, GE616.out, NB594_616.out, NB616_594.out, NB597_616.out, NB616_597.out, NB599_616.out, NB616_599.out, (uc HB.out)⟩)
     ·skip
      rintro gb616 w39 ⟨hS_, h0_, h1_, h2_, h3_, h4_, h5_, h6_, h7_, h8_, h9_, h10_, h11_, h12_⟩
      have n0_ : Aside0 (w39.heap[gb594]? = some (.cells #[.int .i64 a3_0, .int .i64 a3_1, .int .i64 a3_2, .int .i64 a3_3] 44 (0, 0))) := ⟨h0_⟩
      have n1_ : Aside0 (w39.heap[gb597]? = some (.cells #[.int .u64 ((rd_T72 ((rd_T28 l0 a3_0).f4) a3_1).f0), .int .i64 ((rd_T72 ((rd_T28 l0 a3_0).f4) a3_1).f1)] 72 (0, 0))) := ⟨h1_⟩
      have n2_ : Aside0 (w39.heap[gb599]? = some (.cells #[.string ((rd_T28 l0 a3_2).f0), .slice A598_1 ((rd_T28 l0 a3_2).f1).length c598_1, .slice A598_2 ((rd_T28 l0 a3_2).f2).length c598_2, .slice (some ad600) ((rd_T28 l0 a3_2).f3).length c598_3, .slice A598_4 ((rd_T28 l0 a3_2).f4).length c598_4, .slice A598_5 ((rd_T28 l0 a3_2).f5).length c598_5, .slice A598_6 ((rd_T28 l0 a3_2).f6).length c598_6] 28 (0, 0))) := ⟨h2_⟩
      have n3_ : Aside0 (w39.heap[gb616]? = some (.cells #[.int .u64 0, .int .u64 0, .int .u64 0, .int .i64 0, .int .i64 0, .bool false] 37 (0, 0))) := ⟨h3_⟩
      have n4_ : Aside0 (w.heap.size ≤ gb616) := ⟨h4_⟩
      have n5_ : Aside0 (w.heap.size ≤ gb616) := ⟨h5_⟩
      have n6_ : Aside0 (gb594 ≠ gb616) := ⟨h6_⟩
      have n7_ : Aside0 (gb616 ≠ gb594) := ⟨h7_⟩
      have n8_ : Aside0 (gb597 ≠ gb616) := ⟨h8_⟩
      have n9_ : Aside0 (gb616 ≠ gb597) := ⟨h9_⟩
      have n10_ : Aside0 (gb599 ≠ gb616) := ⟨h10_⟩
      have n11_ : Aside0 (gb616 ≠ gb599) := ⟨h11_⟩
      have n12_ : Aside0 (Below w.heap.size w w39) := ⟨h12_⟩
      clear BK594 BK597 BK599 HB h0_ h1_ h2_ h3_ h4_ h5_ h6_ h7_ h8_ h9_ h10_ h11_ h12_
      revert n0_ n1_ n2_ n3_ n4_ n5_ n6_ n7_ n8_ n9_ n10_ n11_ n12_
      intro BK594 BK597 BK599 BK616 GW616 GE616 NB594_616 NB616_594 NB597_616 NB616_597 NB599_616 NB616_599 HB
      have hHeld : w39.cell? ⟨gb599, 0, none⟩ = some (.string ((rd_T28 l0 a3_2).f0)) ∧ w39.cell? ⟨gb599, 1, none⟩ = some (.slice A598_1 ((rd_T28 l0 a3_2).f1).length c598_1) ∧ w39.cell? ⟨gb599, 2, none⟩ = some (.slice A598_2 ((rd_T28 l0 a3_2).f2).length c598_2) ∧ w39.cell? ⟨gb599, 3, none⟩ = some (.slice (some ad600) ((rd_T28 l0 a3_2).f3).length c598_3) ∧ w39.cell? ⟨gb599, 4, none⟩ = some (.slice A598_4 ((rd_T28 l0 a3_2).f4).length c598_4) ∧ w39.cell? ⟨gb599, 5, none⟩ = some (.slice A598_5 ((rd_T28 l0 a3_2).f5).length c598_5) ∧ w39.cell? ⟨gb599, 6, none⟩ = some (.slice A598_6 ((rd_T28 l0 a3_2).f6).length c598_6) ∧ w39.cell? ⟨gb594, 0, none⟩ = some (.int .i64 a3_0) ∧ w39.cell? ⟨gb594, 1, none⟩ = some (.int .i64 a3_1) ∧ w39.cell? ⟨gb594, 2, none⟩ = some (.int .i64 a3_2) ∧ w39.cell? ⟨gb594, 3, none⟩ = some (.int .i64 a3_3) ∧ w39.cell? (ad601.add (a3_2).toNat) = some (.int .u64 (rd l1 a3_2)) ∧ w39.cell? (ad602.add (a3_2).toNat) = some (.int .i64 (rd l2 a3_2)) := hS_
      refine norm_ (a' := ?_) ?_ ?_
      rotate_left
      ·simp only [putAll, Act.put, List.setIfInBounds_toArray, List.set_cons_zero, List.set_cons_succ]
       rfl
      refine one_ (i := 17) (N := some 13) (bA 21 524287) rfl rfl (one_of HT_.out (by kernel_rfl)) (by decide) (fun K hK => ?_)
      refine box_step ?hg (N := 13) ?hd (cs := #[.int .u64 0, .int .u64 0, .int .u64 0, .int .i64 0, .int .i64 0, .bool false]) (t := 37) ?hr ?_; (case hd => rfl); (case hg => rfl); (case hr => first | (go_simp; done) | (go_simp; rfl))
      intro gb615 hg w40 hbox hb
      have n0_ := bw BK594 hb
      have n1_ := bw BK597 hb
      have n2_ := bw BK599 hb
      have n3_ := bw BK616 hb
      have n4_ := bs HB hb
      have n5_ := am (hbox)
      have n6_ := nz HB hg
      have n7_ := nz HB hg
      have n8_ := nl BK594 hg
      have n9_ := nr BK594 hg
      have n10_ := nl BK597 hg
      have n11_ := nr BK597 hg
      have n12_ := nl BK599 hg
      have n13_ := nr BK599 hg
      have n14_ := nl BK616 hg
      have n15_ := nr BK616 hg
      revert n0_ n1_ n2_ n3_ n4_ n5_ n6_ n7_ n8_ n9_ n10_ n11_ n12_ n13_ n14_ n15_
      clear BK594 BK597 BK599 BK616 HB
      intro BK594 BK597 BK599 BK616 HB BK615 GW615 GE615 NB594_615 NB615_594 NB597_615 NB615_597 NB599_615 NB615_599 NB616_615 NB615_616
      clear hb hbox hg
      refine hK.out _ _ ⟨cz BK599 0, cz BK599 1, cz BK599 2, cz BK599 3, cz BK599 4, cz BK599 5, cz BK599 6, cz BK594 0, cz BK594 1, cz BK594 2, cz BK594 3, (bcel HB hw601_0 :), (bcel HB hw602_0 :)⟩ (fun hHeld => ?_)
      clear hK K
      refine norm_ (a' := ?_) ?_ ?_
      rotate_left
      ·show Act.put _ (some 13) _ = _
       simp only [Act.put, List.setIfInBounds_toArray, List.set_cons_zero, List.set_cons_succ, i64_w, i32_w]
       rfl
      exact norm_ (by first | (simp only [putAll, Act.put, List.setIfInBounds_toArray, List.set_cons_zero, List.set_cons_succ]; done) | (simp only [putAll, Act.put, List.setIfInBounds_toArray, List.set_cons_zero, List.set_cons_succ]; rfl)) (hJ13_17_18 (gb615, gb616) _ ⟨hHeld, (ub BK594.out), (ub BK597.out), (ub BK599.out), (ub BK615.out), (ub BK616.out), GW615.out, GE615.out, NB594_615.out, NB615_594.out, NB597_615.out, NB615_597.out, NB599_615.out, NB615_599.out, NB616_615.out, NB615_616.out, GW616.out, GE616.out, NB594_616.out, NB616_594.out, NB597_616.out, NB616_597.out, NB599_616.out, NB616_599.out, (uc HB.out)⟩)
    ·skip
     rintro gb615 w39 ⟨hS_, h0_, h1_, h2_, h3_, h4_, h5_, h6_, h7_, h8_, h9_, h10_, h11_, h12_⟩
     have n0_ : Aside0 (w39.heap[gb594]? = some (.cells #[.int .i64 a3_0, .int .i64 a3_1, .int .i64 a3_2, .int .i64 a3_3] 44 (0, 0))) := ⟨h0_⟩
     have n1_ : Aside0 (w39.heap[gb597]? = some (.cells #[.int .u64 ((rd_T72 ((rd_T28 l0 a3_0).f4) a3_1).f0), .int .i64 ((rd_T72 ((rd_T28 l0 a3_0).f4) a3_1).f1)] 72 (0, 0))) := ⟨h1_⟩
     have n2_ : Aside0 (w39.heap[gb599]? = some (.cells #[.string ((rd_T28 l0 a3_2).f0), .slice A598_1 ((rd_T28 l0 a3_2).f1).length c598_1, .slice A598_2 ((rd_T28 l0 a3_2).f2).length c598_2, .slice (some ad600) ((rd_T28 l0 a3_2).f3).length c598_3, .slice A598_4 ((rd_T28 l0 a3_2).f4).length c598_4, .slice A598_5 ((rd_T28 l0 a3_2).f5).length c598_5, .slice A598_6 ((rd_T28 l0 a3_2).f6).length c598_6] 28 (0, 0))) := ⟨h2_⟩
     have n3_ : Aside0 (w39.heap[gb615]? = some (.cells #[.int .u64 0, .int .u64 0, .int .u64 0, .int .i64 0, .int .i64 0, .bool false] 37 (0, 0))) := ⟨h3_⟩
     have n4_ : Aside0 (w.heap.size ≤ gb615) := ⟨h4_⟩
     have n5_ : Aside0 (w.heap.size ≤ gb615) := ⟨h5_⟩
     have n6_ : Aside0 (gb594 ≠ gb615) := ⟨h6_⟩
     have n7_ : Aside0 (gb615 ≠ gb594) := ⟨h7_⟩
     have n8_ : Aside0 (gb597 ≠ gb615) := ⟨h8_⟩
     have n9_ : Aside0 (gb615 ≠ gb597) := ⟨h9_⟩
     have n10_ : Aside0 (gb599 ≠ gb615) := ⟨h10_⟩
     have n11_ : Aside0 (gb615 ≠ gb599) := ⟨h11_⟩
     have n12_ : Aside0 (Below w.heap.size w w39) := ⟨h12_⟩
     clear BK594 BK597 BK599 HB h0_ h1_ h2_ h3_ h4_ h5_ h6_ h7_ h8_ h9_ h10_ h11_ h12_
     revert n0_ n1_ n2_ n3_ n4_ n5_ n6_ n7_ n8_ n9_ n10_ n11_ n12_
     intro BK594 BK597 BK599 BK615 GW615 GE615 NB594_615 NB615_594 NB597_615 NB615_597 NB599_615 NB615_599 HB
     have hHeld : w39.cell? ⟨gb599, 0, none⟩ = some (.string ((rd_T28 l0 a3_2).f0)) ∧ w39.cell? ⟨gb599, 1, none⟩ = some (.slice A598_1 ((rd_T28 l0 a3_2).f1).length c598_1) ∧ w39.cell? ⟨gb599, 2, none⟩ = some (.slice A598_2 ((rd_T28 l0 a3_2).f2).length c598_2) ∧ w39.cell? ⟨gb599, 3, none⟩ = some (.slice (some ad600) ((rd_T28 l0 a3_2).f3).length c598_3) ∧ w39.cell? ⟨gb599, 4, none⟩ = some (.slice A598_4 ((rd_T28 l0 a3_2).f4).length c598_4) ∧ w39.cell? ⟨gb599, 5, none⟩ = some (.slice A598_5 ((rd_T28 l0 a3_2).f5).length c598_5) ∧ w39.cell? ⟨gb599, 6, none⟩ = some (.slice A598_6 ((rd_T28 l0 a3_2).f6).length c598_6) ∧ w39.cell? ⟨gb594, 0, none⟩ = some (.int .i64 a3_0) ∧ w39.cell? ⟨gb594, 1, none⟩ = some (.int .i64 a3_1) ∧ w39.cell? ⟨gb594, 2, none⟩ = some (.int .i64 a3_2) ∧ w39.cell? ⟨gb594, 3, none⟩ = some (.int .i64 a3_3) ∧ w39.cell? (ad601.add (a3_2).toNat) = some (.int .u64 (rd l1 a3_2)) ∧ w39.cell? (ad602.add (a3_2).toNat) = some (.int .i64 (rd l2 a3_2)) := hS_
     refine norm_ (a' := ?_) ?_ ?_
     rotate_left
     ·simp only [putAll, Act.put, List.setIfInBounds_toArray, List.set_cons_zero, List.set_cons_succ]
      rfl
     refine one_ (i := 18) (N := some 14) (bA 21 524287) rfl rfl (one_of HT_.out (by kernel_rfl)) (by decide) (fun K hK => ?_)
     refine box_step ?hg (N := 14) ?hd (cs := #[.int .u64 0, .int .u64 0, .int .u64 0, .int .i64 0, .int .i64 0, .bool false]) (t := 37) ?hr ?_; (case hd => rfl); (case hg => rfl); (case hr => first | (go_simp; done) | (go_simp; rfl))
     intro gb616 hg w40 hbox hb
     have n0_ := bw BK594 hb
     have n1_ := bw BK597 hb
     have n2_ := bw BK599 hb
     have n3_ := bw BK615 hb
     have n4_ := bs HB hb
     have n5_ := am (hbox)
     have n6_ := nz HB hg
     have n7_ := nz HB hg
     have n8_ := nl BK594 hg
     have n9_ := nr BK594 hg
     have n10_ := nl BK597 hg
     have n11_ := nr BK597 hg
     have n12_ := nl BK599 hg
     have n13_ := nr BK599 hg
     have n14_ := nl BK615 hg
     have n15_ := nr BK615 hg
     revert n0_ n1_ n2_ n3_ n4_ n5_ n6_ n7_ n8_ n9_ n10_ n11_ n12_ n13_ n14_ n15_
     clear BK594 BK597 BK599 BK615 HB
     intro BK594 BK597 BK599 BK615 HB BK616 GW616 GE616 NB594_616 NB616_594 NB597_616 NB616_597 NB599_616 NB616_599 NB615_616 NB616_615
     clear hb hbox hg
     refine hK.out _ _ ⟨cz BK599 0, cz BK599 1, cz BK599 2, cz BK599 3, cz BK599 4, cz BK599 5, cz BK599 6, cz BK594 0, cz BK594 1, cz BK594 2, cz BK594 3, (bcel HB hw601_0 :), (bcel HB hw602_0 :)⟩ (fun hHeld => ?_)
     clear hK K
     refine norm_ (a' := ?_) ?_ ?_
     rotate_left
     ·show Act.put _ (some 14) _ = _
      simp only [Act.put, List.setIfInBounds_toArray, List.set_cons_zero, List.set_cons_succ, i64_w, i32_w]
      rfl
     exact norm_ (by first | (simp only [putAll, Act.put, List.setIfInBounds_toArray, List.set_cons_zero, List.set_cons_succ]; done) | (simp only [putAll, Act.put, List.setIfInBounds_toArray, List.set_cons_zero, List.set_cons_succ]; rfl)) (hJ13_17_18 (gb615, gb616) _ ⟨hHeld, (ub BK594.out), (ub BK597.out), (ub BK599.out), (ub BK615.out), (ub BK616.out), GW615.out, GE615.out, NB594_615.out, NB615_594.out, NB597_615.out, NB615_597.out, NB599_615.out, NB615_599.out, NB616_615.out, NB615_616.out, GW616.out, GE616.out, NB594_616.out, NB616_594.out, NB597_616.out, NB616_597.out, NB599_616.out, NB616_599.out, (uc HB.out)⟩)
   rintro ⟨gb615, gb616⟩ w40 ⟨hS_, h0_, h1_, h2_, h3_, h4_, h5_, h6_, h7_, h8_, h9_, h10_, h11_, h12_, h13_, h14_, h15_, h16_, h17_, h18_, h19_, h20_, h21_, h22_, h23_⟩
   have n0_ : Aside0 (w40.heap[gb594]? = some (.cells #[.int .i64 a3_0, .int .i64 a3_1, .int .i64 a3_2, .int .i64 a3_3] 44 (0, 0))) := ⟨h0_⟩
   have n1_ : Aside0 (w40.heap[gb597]? = some (.cells #[.int .u64 ((rd_T72 ((rd_T28 l0 a3_0).f4) a3_1).f0), .int .i64 ((rd_T72 ((rd_T28 l0 a3_0).f4) a3_1).f1)] 72 (0, 0))) := ⟨h1_⟩
   have n2_ : Aside0 (w40.heap[gb599]? = some (.cells #[.string ((rd_T28 l0 a3_2).f0), .slice A598_1 ((rd_T28 l0 a3_2).f1).length c598_1, .slice A598_2 ((rd_T28 l0 a3_2).f2).length c598_2, .slice (some ad600) ((rd_T28 l0 a3_2).f3).length c598_3, .slice A598_4 ((rd_T28 l0 a3_2).f4).length c598_4, .slice A598_5 ((rd_T28 l0 a3_2).f5).length c598_5, .slice A598_6 ((rd_T28 l0 a3_2).f6).length c598_6] 28 (0, 0))) := ⟨h2_⟩
   have n3_ : Aside0 (w40.heap[gb615]? = some (.cells #[.int .u64 0, .int .u64 0, .int .u64 0, .int .i64 0, .int .i64 0, .bool false] 37 (0, 0))) := ⟨h3_⟩
   have n4_ : Aside0 (w40.heap[gb616]? = some (.cells #[.int .u64 0, .int .u64 0, .int .u64 0, .int .i64 0, .int .i64 0, .bool false] 37 (0, 0))) := ⟨h4_⟩
   have n5_ : Aside0 (w.heap.size ≤ gb615) := ⟨h5_⟩
   have n6_ : Aside0 (w.heap.size ≤ gb615) := ⟨h6_⟩
   have n7_ : Aside0 (gb594 ≠ gb615) := ⟨h7_⟩
   have n8_ : Aside0 (gb615 ≠ gb594) := ⟨h8_⟩
   have n9_ : Aside0 (gb597 ≠ gb615) := ⟨h9_⟩
   have n10_ : Aside0 (gb615 ≠ gb597) := ⟨h10_⟩
   have n11_ : Aside0 (gb599 ≠ gb615) := ⟨h11_⟩
   have n12_ : Aside0 (gb615 ≠ gb599) := ⟨h12_⟩
   have n13_ : Aside0 (gb616 ≠ gb615) := ⟨h13_⟩
   have n14_ : Aside0 (gb615 ≠ gb616) := ⟨h14_⟩
   have n15_ : Aside0 (w.heap.size ≤ gb616) := ⟨h15_⟩
   have n16_ : Aside0 (w.heap.size ≤ gb616) := ⟨h16_⟩
   have n17_ : Aside0 (gb594 ≠ gb616) := ⟨h17_⟩
   have n18_ : Aside0 (gb616 ≠ gb594) := ⟨h18_⟩
   have n19_ : Aside0 (gb597 ≠ gb616) := ⟨h19_⟩
   have n20_ : Aside0 (gb616 ≠ gb597) := ⟨h20_⟩
   have n21_ : Aside0 (gb599 ≠ gb616) := ⟨h21_⟩
   have n22_ : Aside0 (gb616 ≠ gb599) := ⟨h22_⟩
   have n23_ : Aside0 (Below w.heap.size w w40) := ⟨h23_⟩
   clear BK594 BK597 BK599 HB h0_ h1_ h2_ h3_ h4_ h5_ h6_ h7_ h8_ h9_ h10_ h11_ h12_ h13_ h14_ h15_ h16_ h17_ h18_ h19_ h20_ h21_ h22_ h23_
   revert n0_ n1_ n2_ n3_ n4_ n5_ n6_ n7_ n8_ n9_ n10_ n11_ n12_ n13_ n14_ n15_ n16_ n17_ n18_ n19_ n20_ n21_ n22_ n23_
   intro BK594 BK597 BK599 BK615 BK616 GW615 GE615 NB594_615 NB615_594 NB597_615 NB615_597 NB599_615 NB615_599 NB616_615 NB615_616 GW616 GE616 NB594_616 NB616_594 NB597_616 NB616_597 NB599_616 NB616_599 HB
   have hHeld : w40.cell? ⟨gb599, 0, none⟩ = some (.string ((rd_T28 l0 a3_2).f0)) ∧ w40.cell? ⟨gb599, 1, none⟩ = some (.slice A598_1 ((rd_T28 l0 a3_2).f1).length c598_1) ∧ w40.cell? ⟨gb599, 2, none⟩ = some (.slice A598_2 ((rd_T28 l0 a3_2).f2).length c598_2) ∧ w40.cell? ⟨gb599, 3, none⟩ = some (.slice (some ad600) ((rd_T28 l0 a3_2).f3).length c598_3) ∧ w40.cell? ⟨gb599, 4, none⟩ = some (.slice A598_4 ((rd_T28 l0 a3_2).f4).length c598_4) ∧ w40.cell? ⟨gb599, 5, none⟩ = some (.slice A598_5 ((rd_T28 l0 a3_2).f5).length c598_5) ∧ w40.cell? ⟨gb599, 6, none⟩ = some (.slice A598_6 ((rd_T28 l0 a3_2).f6).length c598_6) ∧ w40.cell? ⟨gb594, 0, none⟩ = some (.int .i64 a3_0) ∧ w40.cell? ⟨gb594, 1, none⟩ = some (.int .i64 a3_1) ∧ w40.cell? ⟨gb594, 2, none⟩ = some (.int .i64 a3_2) ∧ w40.cell? ⟨gb594, 3, none⟩ = some (.int .i64 a3_3) ∧ w40.cell? (ad601.add (a3_2).toNat) = some (.int .u64 (rd l1 a3_2)) ∧ w40.cell? (ad602.add (a3_2).toNat) = some (.int .i64 (rd l2 a3_2)) := hS_
   refine norm_ (a' := ?_) ?_ ?_
   rotate_left
   ·simp only [putAll, Act.put, List.setIfInBounds_toArray, List.set_cons_zero, List.set_cons_succ]
    rfl
   refine one_ (i := 19) (N := none) (bA 21 1048575) rfl rfl (one_of HT_.out (by kernel_rfl)) (by decide) (fun K hK => ?_)
   have hs41 : w40.cell? ⟨gb615, 0, none⟩ = some (.int .u64 0) := cz BK615 0
   have hfs41 := fz BK615 0
   have hns41_0 := NB594_615.out
   have hns41_1 := NB597_615.out
   have hns41_2 := NB599_615.out
   have hns41_4 := NB616_615.out
   have hms41_0 := NB615_594.out
   have hms41_1 := NB615_597.out
   have hms41_2 := NB615_599.out
   have hms41_4 := NB615_616.out
   have hs42 : w40.cell? ⟨gb615, 1, none⟩ = some (.int .u64 0) := cz BK615 1
   have hfs42 := fz BK615 1
   have hns42_0 := NB594_615.out
   have hns42_1 := NB597_615.out
   have hns42_2 := NB599_615.out
   have hns42_4 := NB616_615.out
   have hms42_0 := NB615_594.out
   have hms42_1 := NB615_597.out
   have hms42_2 := NB615_599.out
   have hms42_4 := NB615_616.out
   have hs43 : w40.cell? ⟨gb615, 2, none⟩ = some (.int .u64 0) := cz BK615 2
   have hfs43 := fz BK615 2
   have hns43_0 := NB594_615.out
   have hns43_1 := NB597_615.out
   have hns43_2 := NB599_615.out
   have hns43_4 := NB616_615.out
   have hms43_0 := NB615_594.out
   have hms43_1 := NB615_597.out
   have hms43_2 := NB615_599.out
   have hms43_4 := NB615_616.out
   have hs44 : w40.cell? ⟨gb615, 3, none⟩ = some (.int .i64 0) := cz BK615 3
   have hfs44 := fz BK615 3
   have hns44_0 := NB594_615.out
   have hns44_1 := NB597_615.out
   have hns44_2 := NB599_615.out
   have hns44_4 := NB616_615.out
   have hms44_0 := NB615_594.out
   have hms44_1 := NB615_597.out
   have hms44_2 := NB615_599.out
   have hms44_4 := NB615_616.out
   have hs45 : w40.cell? ⟨gb615, 4, none⟩ = some (.int .i64 0) := cz BK615 4
   have hfs45 := fz BK615 4
   have hns45_0 := NB594_615.out
   have hns45_1 := NB597_615.out
   have hns45_2 := NB599_615.out
   have hns45_4 := NB616_615.out
   have hms45_0 := NB615_594.out
   have hms45_1 := NB615_597.out
   have hms45_2 := NB615_599.out
   have hms45_4 := NB615_616.out
   have hs46 : w40.cell? ⟨gb615, 5, none⟩ = some (.bool false) := cz BK615 5
   have hfs46 := fz BK615 5
   have hns46_0 := NB594_615.out
   have hns46_1 := NB597_615.out
   have hns46_2 := NB599_615.out
   have hns46_4 := NB616_615.out
   have hms46_0 := NB615_594.out
   have hms46_1 := NB615_597.out
   have hms46_2 := NB615_599.out
   have hms46_4 := NB615_616.out
   refine skip_ (w1 := ?_) (by rfl) rfl ?_ ?_
   rotate_left
   ·go_simp
    rfl
   refine hK.out _ _ ⟨((cnf6 (NB599_615.out)).trans (hHeld.1)), ((cnf6 (NB599_615.out)).trans (hHeld.2.1)), ((cnf6 (NB599_615.out)).trans (hHeld.2.2.1)), ((cnf6 (NB599_615.out)).trans (hHeld.2.2.2.1)), ((cnf6 (NB599_615.out)).trans (hHeld.2.2.2.2.1)), ((cnf6 (NB599_615.out)).trans (hHeld.2.2.2.2.2.1)), ((cnf6 (NB599_615.out)).trans (hHeld.2.2.2.2.2.2.1)), ((cnf6 (NB594_615.out)).trans (hHeld.2.2.2.2.2.2.2.1)), ((cnf6 (NB594_615.out)).trans (hHeld.2.2.2.2.2.2.2.2.1)), ((cnf6 (NB594_615.out)).trans (hHeld.2.2.2.2.2.2.2.2.2.1)), ((cnf6 (NB594_615.out)).trans (hHeld.2.2.2.2.2.2.2.2.2.2.1)), ((cfar6 hw601_0 GW615.out).trans (hHeld.2.2.2.2.2.2.2.2.2.2.2.1)), ((cfar6 hw602_0 GW615.out).trans (hHeld.2.2.2.2.2.2.2.2.2.2.2.2))⟩ (fun hHeld => ?_)
   clear hK K
   refine one_ (i := 20) (N := none) (bA 21 2097151) rfl rfl (one_of HT_.out (by kernel_rfl)) (by decide) (fun K hK => ?_)
   have hs47 : w40.cell? ⟨gb616, 0, none⟩ = some (.int .u64 0) := cz BK616 0
   have hfs47 := fz BK616 0
   have hns47_0 := NB594_616.out
   have hns47_1 := NB597_616.out
   have hns47_2 := NB599_616.out
   have hns47_3 := NB615_616.out
   have hms47_0 := NB616_594.out
   have hms47_1 := NB616_597.out
   have hms47_2 := NB616_599.out
   have hms47_3 := NB616_615.out
   have hs48 : w40.cell? ⟨gb616, 1, none⟩ = some (.int .u64 0) := cz BK616 1
   have hfs48 := fz BK616 1
   have hns48_0 := NB594_616.out
   have hns48_1 := NB597_616.out
   have hns48_2 := NB599_616.out
   have hns48_3 := NB615_616.out
   have hms48_0 := NB616_594.out
   have hms48_1 := NB616_597.out
   have hms48_2 := NB616_599.out
   have hms48_3 := NB616_615.out
   have hs49 : w40.cell? ⟨gb616, 2, none⟩ = some (.int .u64 0) := cz BK616 2
   have hfs49 := fz BK616 2
   have hns49_0 := NB594_616.out
   have hns49_1 := NB597_616.out
   have hns49_2 := NB599_616.out
   have hns49_3 := NB615_616.out
   have hms49_0 := NB616_594.out
   have hms49_1 := NB616_597.out
   have hms49_2 := NB616_599.out
   have hms49_3 := NB616_615.out
   have hs50 : w40.cell? ⟨gb616, 3, none⟩ = some (.int .i64 0) := cz BK616 3
   have hfs50 := fz BK616 3
   have hns50_0 := NB594_616.out
   have hns50_1 := NB597_616.out
   have hns50_2 := NB599_616.out
   have hns50_3 := NB615_616.out
   have hms50_0 := NB616_594.out
   have hms50_1 := NB616_597.out
   have hms50_2 := NB616_599.out
   have hms50_3 := NB616_615.out
   have hs51 : w40.cell? ⟨gb616, 4, none⟩ = some (.int .i64 0) := cz BK616 4
   have hfs51 := fz BK616 4
   have hns51_0 := NB594_616.out
   have hns51_1 := NB597_616.out
   have hns51_2 := NB599_616.out
   have hns51_3 := NB615_616.out
   have hms51_0 := NB616_594.out
   have hms51_1 := NB616_597.out
   have hms51_2 := NB616_599.out
   have hms51_3 := NB616_615.out
   have hs52 : w40.cell? ⟨gb616, 5, none⟩ = some (.bool false) := cz BK616 5
   have hfs52 := fz BK616 5
   have hns52_0 := NB594_616.out
   have hns52_1 := NB597_616.out
   have hns52_2 := NB599_616.out
   have hns52_3 := NB615_616.out
   have hms52_0 := NB616_594.out
   have hms52_1 := NB616_597.out
   have hms52_2 := NB616_599.out
   have hms52_3 := NB616_615.out
   refine skip_ (w1 := ?_) (by rfl) rfl ?_ ?_
   rotate_left
   ·go_simp
    rfl
   refine hK.out _ _ ⟨((cnf6 (NB599_616.out)).trans (hHeld.1)), ((cnf6 (NB599_616.out)).trans (hHeld.2.1)), ((cnf6 (NB599_616.out)).trans (hHeld.2.2.1)), ((cnf6 (NB599_616.out)).trans (hHeld.2.2.2.1)), ((cnf6 (NB599_616.out)).trans (hHeld.2.2.2.2.1)), ((cnf6 (NB599_616.out)).trans (hHeld.2.2.2.2.2.1)), ((cnf6 (NB599_616.out)).trans (hHeld.2.2.2.2.2.2.1)), ((cnf6 (NB594_616.out)).trans (hHeld.2.2.2.2.2.2.2.1)), ((cnf6 (NB594_616.out)).trans (hHeld.2.2.2.2.2.2.2.2.1)), ((cnf6 (NB594_616.out)).trans (hHeld.2.2.2.2.2.2.2.2.2.1)), ((cnf6 (NB594_616.out)).trans (hHeld.2.2.2.2.2.2.2.2.2.2.1)), ((cfar6 hw601_0 GW616.out).trans (hHeld.2.2.2.2.2.2.2.2.2.2.2.1)), ((cfar6 hw602_0 GW616.out).trans (hHeld.2.2.2.2.2.2.2.2.2.2.2.2))⟩ (fun hHeld => ?_)
   clear hK K
   refine done_ (done_of HT_.out (by kernel_rfl)) ?_
   have hnb53 := NB615_594.out
   have hnc53 := NB594_615.out
   have hnb54 := NB615_597.out
   have hnc54 := NB597_615.out
   have hnb55 := NB615_599.out
   have hnc55 := NB599_615.out
   have hnb56 := NB615_616.out
   have hnc56 := NB616_615.out
   obtain ⟨hcz57_0, hcz57_1, hcz57_2, hcz57_3, hcz57_4, hcz57_5, hfz57_0, hfz57_1, hfz57_2, hfz57_3, hfz57_4, hfz57_5⟩ := cl6 BK615
   have hnb58 := NB616_594.out
   have hnc58 := NB594_616.out
   have hnb59 := NB616_597.out
   have hnc59 := NB597_616.out
   have hnb60 := NB616_599.out
   have hnc60 := NB599_616.out
   obtain ⟨hcz61_0, hcz61_1, hcz61_2, hcz61_3, hcz61_4, hcz61_5, hfz61_0, hfz61_1, hfz61_2, hfz61_3, hfz61_4, hfz61_5⟩ := cl6 BK616
   try go_wp2
   have n0_ : Aside0 (((((((((((((w40.setCell ⟨gb615, 0, none⟩ (.int .u64 t603)).setCell ⟨gb615, 1, none⟩ (.int .u64 t604)).setCell ⟨gb615, 2, none⟩ (.int .u64 t605)).setCell ⟨gb615, 3, none⟩ (.int .i64 t606)).setCell ⟨gb615, 4, none⟩ (.int .i64 t607)).setCell ⟨gb615, 5, none⟩ (.bool t608)).setCell ⟨gb616, 0, none⟩ (.int .u64 t609)).setCell ⟨gb616, 1, none⟩ (.int .u64 t610)).setCell ⟨gb616, 2, none⟩ (.int .u64 t611)).setCell ⟨gb616, 3, none⟩ (.int .i64 t612)).setCell ⟨gb616, 4, none⟩ (.int .i64 t613)).setCell ⟨gb616, 5, none⟩ (.bool t614)).heap[gb594]? = some (.cells #[.int .i64 a3_0, .int .i64 a3_1, .int .i64 a3_2, .int .i64 a3_3] 44 (0, 0))) := ⟨by (iterate 6 ((with_reducible repeat (first | refine blk_drewN ?_ _ | refine blk_drew ?_ | refine blk_alloc ?_ _)); refine blk_far ?_ NB594_616.out _)); (iterate 6 ((with_reducible repeat (first | refine blk_drewN ?_ _ | refine blk_drew ?_ | refine blk_alloc ?_ _)); refine blk_far ?_ NB594_615.out _)); (with_reducible repeat (first | refine blk_drewN ?_ _ | refine blk_drew ?_ | refine blk_alloc ?_ _)); exact BK594.out⟩
   have n1_ : Aside0 (((((((((((((w40.setCell ⟨gb615, 0, none⟩ (.int .u64 t603)).setCell ⟨gb615, 1, none⟩ (.int .u64 t604)).setCell ⟨gb615, 2, none⟩ (.int .u64 t605)).setCell ⟨gb615, 3, none⟩ (.int .i64 t606)).setCell ⟨gb615, 4, none⟩ (.int .i64 t607)).setCell ⟨gb615, 5, none⟩ (.bool t608)).setCell ⟨gb616, 0, none⟩ (.int .u64 t609)).setCell ⟨gb616, 1, none⟩ (.int .u64 t610)).setCell ⟨gb616, 2, none⟩ (.int .u64 t611)).setCell ⟨gb616, 3, none⟩ (.int .i64 t612)).setCell ⟨gb616, 4, none⟩ (.int .i64 t613)).setCell ⟨gb616, 5, none⟩ (.bool t614)).heap[gb597]? = some (.cells #[.int .u64 ((rd_T72 ((rd_T28 l0 a3_0).f4) a3_1).f0), .int .i64 ((rd_T72 ((rd_T28 l0 a3_0).f4) a3_1).f1)] 72 (0, 0))) := ⟨by (iterate 6 ((with_reducible repeat (first | refine blk_drewN ?_ _ | refine blk_drew ?_ | refine blk_alloc ?_ _)); refine blk_far ?_ NB597_616.out _)); (iterate 6 ((with_reducible repeat (first | refine blk_drewN ?_ _ | refine blk_drew ?_ | refine blk_alloc ?_ _)); refine blk_far ?_ NB597_615.out _)); (with_reducible repeat (first | refine blk_drewN ?_ _ | refine blk_drew ?_ | refine blk_alloc ?_ _)); exact BK597.out⟩
   have n2_ : Aside0 (((((((((((((w40.setCell ⟨gb615, 0, none⟩ (.int .u64 t603)).setCell ⟨gb615, 1, none⟩ (.int .u64 t604)).setCell ⟨gb615, 2, none⟩ (.int .u64 t605)).setCell ⟨gb615, 3, none⟩ (.int .i64 t606)).setCell ⟨gb615, 4, none⟩ (.int .i64 t607)).setCell ⟨gb615, 5, none⟩ (.bool t608)).setCell ⟨gb616, 0, none⟩ (.int .u64 t609)).setCell ⟨gb616, 1, none⟩ (.int .u64 t610)).setCell ⟨gb616, 2, none⟩ (.int .u64 t611)).setCell ⟨gb616, 3, none⟩ (.int .i64 t612)).setCell ⟨gb616, 4, none⟩ (.int .i64 t613)).setCell ⟨gb616, 5, none⟩ (.bool t614)).heap[gb599]? = some (.cells #[.string ((rd_T28 l0 a3_2).f0), .slice A598_1 ((rd_T28 l0 a3_2).f1).length c598_1, .slice A598_2 ((rd_T28 l0 a3_2).f2).length c598_2, .slice (some ad600) ((rd_T28 l0 a3_2).f3).length c598_3, .slice A598_4 ((rd_T28 l0 a3_2).f4).length c598_4, .slice A598_5 ((rd_T28 l0 a3_2).f5).length c598_5, .slice A598_6 ((rd_T28 l0 a3_2).f6).length c598_6] 28 (0, 0))) := ⟨by (iterate 6 ((with_reducible repeat (first | refine blk_drewN ?_ _ | refine blk_drew ?_ | refine blk_alloc ?_ _)); refine blk_far ?_ NB599_616.out _)); (iterate 6 ((with_reducible repeat (first | refine blk_drewN ?_ _ | refine blk_drew ?_ | refine blk_alloc ?_ _)); refine blk_far ?_ NB599_615.out _)); (with_reducible repeat (first | refine blk_drewN ?_ _ | refine blk_drew ?_ | refine blk_alloc ?_ _)); exact BK599.out⟩
   have n3_ : Aside0 (((((((((((((w40.setCell ⟨gb615, 0, none⟩ (.int .u64 t603)).setCell ⟨gb615, 1, none⟩ (.int .u64 t604)).setCell ⟨gb615, 2, none⟩ (.int .u64 t605)).setCell ⟨gb615, 3, none⟩ (.int .i64 t606)).setCell ⟨gb615, 4, none⟩ (.int .i64 t607)).setCell ⟨gb615, 5, none⟩ (.bool t608)).setCell ⟨gb616, 0, none⟩ (.int .u64 t609)).setCell ⟨gb616, 1, none⟩ (.int .u64 t610)).setCell ⟨gb616, 2, none⟩ (.int .u64 t611)).setCell ⟨gb616, 3, none⟩ (.int .i64 t612)).setCell ⟨gb616, 4, none⟩ (.int .i64 t613)).setCell ⟨gb616, 5, none⟩ (.bool t614)).heap[gb615]? = some (.cells #[.int .u64 t603, .int .u64 t604, .int .u64 t605, .int .i64 t606, .int .i64 t607, .bool t608] 37 (0, 0))) := ⟨by (iterate 6 ((with_reducible repeat (first | refine blk_drewN ?_ _ | refine blk_drew ?_ | refine blk_alloc ?_ _)); refine blk_far ?_ NB615_616.out _)); (with_reducible repeat (first | refine blk_drewN ?_ _ | refine blk_drew ?_ | refine blk_alloc ?_ _)); refine blk_put (cs := #[.int .u64 t603, .int .u64 t604, .int .u64 t605, .int .i64 t606, .int .i64 t607, .bool false]) ?_ 5 _ rfl; (with_reducible repeat (first | refine blk_drewN ?_ _ | refine blk_drew ?_ | refine blk_alloc ?_ _)); refine blk_put (cs := #[.int .u64 t603, .int .u64 t604, .int .u64 t605, .int .i64 t606, .int .i64 0, .bool false]) ?_ 4 _ rfl; (with_reducible repeat (first | refine blk_drewN ?_ _ | refine blk_drew ?_ | refine blk_alloc ?_ _)); refine blk_put (cs := #[.int .u64 t603, .int .u64 t604, .int .u64 t605, .int .i64 0, .int .i64 0, .bool false]) ?_ 3 _ rfl; (with_reducible repeat (first | refine blk_drewN ?_ _ | refine blk_drew ?_ | refine blk_alloc ?_ _)); refine blk_put (cs := #[.int .u64 t603, .int .u64 t604, .int .u64 0, .int .i64 0, .int .i64 0, .bool false]) ?_ 2 _ rfl; (with_reducible repeat (first | refine blk_drewN ?_ _ | refine blk_drew ?_ | refine blk_alloc ?_ _)); refine blk_put (cs := #[.int .u64 t603, .int .u64 0, .int .u64 0, .int .i64 0, .int .i64 0, .bool false]) ?_ 1 _ rfl; (with_reducible repeat (first | refine blk_drewN ?_ _ | refine blk_drew ?_ | refine blk_alloc ?_ _)); refine blk_put (cs := #[.int .u64 0, .int .u64 0, .int .u64 0, .int .i64 0, .int .i64 0, .bool false]) ?_ 0 _ rfl; (with_reducible repeat (first | refine blk_drewN ?_ _ | refine blk_drew ?_ | refine blk_alloc ?_ _)); exact BK615.out⟩
   have n4_ : Aside0 (((((((((((((w40.setCell ⟨gb615, 0, none⟩ (.int .u64 t603)).setCell ⟨gb615, 1, none⟩ (.int .u64 t604)).setCell ⟨gb615, 2, none⟩ (.int .u64 t605)).setCell ⟨gb615, 3, none⟩ (.int .i64 t606)).setCell ⟨gb615, 4, none⟩ (.int .i64 t607)).setCell ⟨gb615, 5, none⟩ (.bool t608)).setCell ⟨gb616, 0, none⟩ (.int .u64 t609)).setCell ⟨gb616, 1, none⟩ (.int .u64 t610)).setCell ⟨gb616, 2, none⟩ (.int .u64 t611)).setCell ⟨gb616, 3, none⟩ (.int .i64 t612)).setCell ⟨gb616, 4, none⟩ (.int .i64 t613)).setCell ⟨gb616, 5, none⟩ (.bool t614)).heap[gb616]? = some (.cells #[.int .u64 t609, .int .u64 t610, .int .u64 t611, .int .i64 t612, .int .i64 t613, .bool t614] 37 (0, 0))) := ⟨by (with_reducible repeat (first | refine blk_drewN ?_ _ | refine blk_drew ?_ | refine blk_alloc ?_ _)); refine blk_put (cs := #[.int .u64 t609, .int .u64 t610, .int .u64 t611, .int .i64 t612, .int .i64 t613, .bool false]) ?_ 5 _ rfl; (with_reducible repeat (first | refine blk_drewN ?_ _ | refine blk_drew ?_ | refine blk_alloc ?_ _)); refine blk_put (cs := #[.int .u64 t609, .int .u64 t610, .int .u64 t611, .int .i64 t612, .int .i64 0, .bool false]) ?_ 4 _ rfl; (with_reducible repeat (first | refine blk_drewN ?_ _ | refine blk_drew ?_ | refine blk_alloc ?_ _)); refine blk_put (cs := #[.int .u64 t609, .int .u64 t610, .int .u64 t611, .int .i64 0, .int .i64 0, .bool false]) ?_ 3 _ rfl; (with_reducible repeat (first | refine blk_drewN ?_ _ | refine blk_drew ?_ | refine blk_alloc ?_ _)); refine blk_put (cs := #[.int .u64 t609, .int .u64 t610, .int .u64 0, .int .i64 0, .int .i64 0, .bool false]) ?_ 2 _ rfl; (with_reducible repeat (first | refine blk_drewN ?_ _ | refine blk_drew ?_ | refine blk_alloc ?_ _)); refine blk_put (cs := #[.int .u64 t609, .int .u64 0, .int .u64 0, .int .i64 0, .int .i64 0, .bool false]) ?_ 1 _ rfl; (with_reducible repeat (first | refine blk_drewN ?_ _ | refine blk_drew ?_ | refine blk_alloc ?_ _)); refine blk_put (cs := #[.int .u64 0, .int .u64 0, .int .u64 0, .int .i64 0, .int .i64 0, .bool false]) ?_ 0 _ rfl; (iterate 6 ((with_reducible repeat (first | refine blk_drewN ?_ _ | refine blk_drew ?_ | refine blk_alloc ?_ _)); refine blk_far ?_ NB616_615.out _)); (with_reducible repeat (first | refine blk_drewN ?_ _ | refine blk_drew ?_ | refine blk_alloc ?_ _)); exact BK616.out⟩
   have n5_ : Aside0 (Below w.heap.size w ((((((((((((w40.setCell ⟨gb615, 0, none⟩ (.int .u64 t603)).setCell ⟨gb615, 1, none⟩ (.int .u64 t604)).setCell ⟨gb615, 2, none⟩ (.int .u64 t605)).setCell ⟨gb615, 3, none⟩ (.int .i64 t606)).setCell ⟨gb615, 4, none⟩ (.int .i64 t607)).setCell ⟨gb615, 5, none⟩ (.bool t608)).setCell ⟨gb616, 0, none⟩ (.int .u64 t609)).setCell ⟨gb616, 1, none⟩ (.int .u64 t610)).setCell ⟨gb616, 2, none⟩ (.int .u64 t611)).setCell ⟨gb616, 3, none⟩ (.int .i64 t612)).setCell ⟨gb616, 4, none⟩ (.int .i64 t613)).setCell ⟨gb616, 5, none⟩ (.bool t614))) := ⟨uc HB.out⟩
   (try clear BK594)
   (try clear BK597)
   (try clear BK599)
   (try clear BK615)
   (try clear BK616)
   (try clear HB)
   generalize ((((((((((((w40.setCell ⟨gb615, 0, none⟩ (.int .u64 t603)).setCell ⟨gb615, 1, none⟩ (.int .u64 t604)).setCell ⟨gb615, 2, none⟩ (.int .u64 t605)).setCell ⟨gb615, 3, none⟩ (.int .i64 t606)).setCell ⟨gb615, 4, none⟩ (.int .i64 t607)).setCell ⟨gb615, 5, none⟩ (.bool t608)).setCell ⟨gb616, 0, none⟩ (.int .u64 t609)).setCell ⟨gb616, 1, none⟩ (.int .u64 t610)).setCell ⟨gb616, 2, none⟩ (.int .u64 t611)).setCell ⟨gb616, 3, none⟩ (.int .i64 t612)).setCell ⟨gb616, 4, none⟩ (.int .i64 t613)).setCell ⟨gb616, 5, none⟩ (.bool t614)) = w62 at n0_ n1_ n2_ n3_ n4_ n5_ ⊢
   revert n0_ n1_ n2_ n3_ n4_ n5_
   intro BK594 BK597 BK599 BK615 BK616 HB
   have n0_ := am (blk_drew BK594.out)
   have n1_ := am (blk_drew BK597.out)
   have n2_ := am (blk_drew BK599.out)
   have n3_ := am (blk_drew BK615.out)
   have n4_ := am (blk_drew BK616.out)
   have n5_ := am (below_drew1 HB.out)
   revert n0_ n1_ n2_ n3_ n4_ n5_
   clear BK594 BK597 BK599 BK615 BK616 HB
   intro BK594 BK597 BK599 BK615 BK616 HB
   have p617 : 0 ≤ (a3_0 : Int) := ud
   have q617 : a3_0 < (l0.length : Int) := ud
   obtain ⟨ad617, A617_1, c617_1, A617_2, c617_2, A617_3, c617_3, A617_4, c617_4, A617_5, c617_5, A617_6, c617_6, e617, hx617_0, hx617_1, hx617_2, hx617_3, hx617_4, hx617_5, hx617_6, hl617_1, hi617_1, hl617_2, hi617_2, hl617_3, hi617_3, hl617_4, hi617_4, hl617_5, hi617_5, hl617_6, hi617_6⟩ := at_T28 HR0.out a3_0 p617 q617
   have hw617_6 := hx617_6
   have hw617_5 := hx617_5
   have hw617_4 := hx617_4
   have hw617_3 := hx617_3
   have hw617_2 := hx617_2
   have hw617_1 := hx617_1
   have hw617_0 := hx617_0
   obtain rfl : ad595 = ad617 := (by injection e617)
   replace hx617_0 := bcel HB hx617_0
   replace hx617_1 := bcel HB hx617_1
   replace hx617_2 := bcel HB hx617_2
   replace hx617_3 := bcel HB hx617_3
   replace hx617_4 := bcel HB hx617_4
   replace hx617_5 := bcel HB hx617_5
   replace hx617_6 := bcel HB hx617_6
   have HR617_1 := am hi617_1
   have HC617_1 := am hl617_1
   clear hi617_1 hl617_1
   have HR617_2 := am hi617_2
   have HC617_2 := am hl617_2
   clear hi617_2 hl617_2
   have HR617_3 := am hi617_3
   have HC617_3 := am hl617_3
   clear hi617_3 hl617_3
   have HR617_4 := am hi617_4
   have HC617_4 := am hl617_4
   clear hi617_4 hl617_4
   have HR617_5 := am hi617_5
   have HC617_5 := am hl617_5
   clear hi617_5 hl617_5
   have HR617_6 := am hi617_6
   have HC617_6 := am hl617_6
   clear hi617_6 hl617_6
   replace p617 := eq_true p617
   replace q617 := eq_true q617
   have p618 : 0 ≤ (((rd_T72 ((rd_T28 l0 a3_0).f4) a3_1).f1) : Int) := ud
   have q618 : ((rd_T72 ((rd_T28 l0 a3_0).f4) a3_1).f1) < (((rd_T28 l0 a3_0).f3).length : Int) := ud
   obtain ⟨ad618, e618, hx618_0, hx618_1, hx618_2, hx618_3, hx618_4, hx618_5, hx618_6, hx618_7⟩ := at_T35 HR617_3.out ((rd_T72 ((rd_T28 l0 a3_0).f4) a3_1).f1) p618 q618
   have hw618_7 := hx618_7
   have hw618_6 := hx618_6
   have hw618_5 := hx618_5
   have hw618_4 := hx618_4
   have hw618_3 := hx618_3
   have hw618_2 := hx618_2
   have hw618_1 := hx618_1
   have hw618_0 := hx618_0
   cases e618
   replace hx618_0 := bcel HB hx618_0
   replace hx618_1 := bcel HB hx618_1
   replace hx618_2 := bcel HB hx618_2
   replace hx618_3 := bcel HB hx618_3
   replace hx618_4 := bcel HB hx618_4
   replace hx618_5 := bcel HB hx618_5
   replace hx618_6 := bcel HB hx618_6
   replace hx618_7 := bcel HB hx618_7
   replace p618 := eq_true p618
   replace q618 := eq_true q618
   have p622 : 0 ≤ (a3_0 : Int) := ud
   have q622 : a3_0 < (l1.length : Int) := ud
   obtain ⟨ad622, e622, hx622_0⟩ := Kd.at_int HR1.out a3_0 p622 q622
   have hw622_0 := hx622_0
   obtain rfl : ad601 = ad622 := (by injection e622)
   replace hx622_0 := bcel HB hx622_0
   replace p622 := eq_true p622
   replace q622 := eq_true q622
   refine sr 27 [] (hB4 BK594 (hB2 BK597 (hA (bcel HB hw617_0 :) (hA (bcel HB hw617_1 :) (hA (bcel HB hw617_2 :) (hA (bcel HB hw617_3 :) (hA (bcel HB hw617_4 :) (hA (bcel HB hw617_5 :) (hA (bcel HB hw617_6 :) (hA (bcel HB hw618_0 :) (hA (bcel HB hw618_1 :) (hA (bcel HB hw618_2 :) (hA (bcel HB hw618_3 :) (hA (bcel HB hw618_4 :) (hA (bcel HB hw618_5 :) (hA (bcel HB hw618_6 :) (hA (bcel HB hw618_7 :) (hZ (bcel HB hw622_0 :))))))))))))))))))) (fun hHeld => ?_); refine with_tabW table_Slot.tab9 table_Slot.bits9 (fun HT_ HW_ => ?_)
   generalize w62.drew = w63 at BK594 BK597 BK599 BK615 BK616 HB HR617_1 HR617_2 HR617_3 HR617_4 HR617_5 HR617_6 hx617_0 hx617_1 hx617_2 hx617_3 hx617_4 hx617_5 hx617_6 hx618_0 hx618_1 hx618_2 hx618_3 hx618_4 hx618_5 hx618_6 hx618_7 hx622_0 hHeld ⊢
   refine pv 0 75 (bA 27 1) HT_ ?_
   refine pv 1 76 (bA 27 3) HT_ ?_
   refine pv 2 77 (bA 27 7) HT_ ?_
   refine pv 7 82 (bA 27 135) HT_ ?_
   refine pv 13 88 (bA 27 8327) HT_ ?_
   refine pv 14 89 (bA 27 24711) HT_ ?_
   refine pv 15 90 (bA 27 57479) HT_ ?_
   refine pv 17 92 (bA 27 188551) HT_ ?_
   refine pv 18 93 (bA 27 450695) HT_ ?_
   refine pv 22 97 (bA 27 4644999) HT_ ?_
   refine tv 3 78 (bA 27 4645007) HT_ HW_ hHeld ?_ (hy := by rintro w' ⟨s0, s1, s2, s3, s4, s5, s6, s7, s8, s9, s10, s11, s12, s13, s14, s15, s16, s17, s18, s19, s20, s21⟩; go_simp; with_reducible rfl)
   refine pv 4 79 (bA 27 4645023) HT_ ?_
   refine pv 5 80 (bA 27 4645055) HT_ ?_
   refine tv 6 81 (bA 27 4645119) HT_ HW_ hHeld ?_ (hy := by rintro w' ⟨s0, s1, s2, s3, s4, s5, s6, s7, s8, s9, s10, s11, s12, s13, s14, s15, s16, s17, s18, s19, s20, s21⟩; go_simp; with_reducible rfl)
   refine tv 8 83 (bA 27 4645375) HT_ HW_ hHeld ?_ (hy := by rintro w' ⟨s0, s1, s2, s3, s4, s5, s6, s7, s8, s9, s10, s11, s12, s13, s14, s15, s16, s17, s18, s19, s20, s21⟩; go_simp; with_reducible rfl)
   refine pv 9 84 (bA 27 4645887) HT_ ?_
   refine pv 10 85 (bA 27 4646911) HT_ ?_
   refine tv 11 86 (bA 27 4648959) HT_ HW_ hHeld ?_ (hy := by rintro w' ⟨s0, s1, s2, s3, s4, s5, s6, s7, s8, s9, s10, s11, s12, s13, s14, s15, s16, s17, s18, s19, s20, s21⟩; go_simp; with_reducible rfl)
   refine pv 12 87 (bA 27 4653055) HT_ ?_
   refine tv 19 94 (bA 27 5177343) HT_ HW_ hHeld ?_ (hy := by rintro w' ⟨s0, s1, s2, s3, s4, s5, s6, s7, s8, s9, s10, s11, s12, s13, s14, s15, s16, s17, s18, s19, s20, s21⟩; go_simp; with_reducible rfl)
   refine pv 20 95 (bA 27 6225919) HT_ ?_
   refine tv 21 96 (bA 27 8323071) HT_ HW_ hHeld ?_ (hy := by rintro w' ⟨s0, s1, s2, s3, s4, s5, s6, s7, s8, s9, s10, s11, s12, s13, s14, s15, s16, s17, s18, s19, s20, s21⟩; go_simp; with_reducible rfl)
   refine tv 23 98 (bA 27 16711679) HT_ HW_ hHeld ?_ (hy := by rintro w' ⟨s0, s1, s2, s3, s4, s5, s6, s7, s8, s9, s10, s11, s12, s13, s14, s15, s16, s17, s18, s19, s20, s21⟩; go_simp; with_reducible rfl)
   refine pv 24 99 (bA 27 33488895) HT_ ?_
   refine one_ (i := 16) (N := some 91) (bA 27 33554431) rfl rfl (one_of HT_.out (by kernel_rfl)) (by decide) (fun K hK => ?_)
   refine goesM_ (caps_entry t603 t604 t605 t606 t607 t608 t609 t610 t611 t612 t613 t614 _) Try.func82 (by kernel_rfl) rfl #[.agg #[.int .u64 t603, .int .u64 t604, .int .u64 t605, .int .i64 t606, .int .i64 t607, .bool t608, .int .u64 t609, .int .u64 t610, .int .u64 t611, .int .i64 t612, .int .i64 t613, .bool t614], .bool (((rd_T35 ((rd_T28 l0 a3_0).f3) ((rd_T72 ((rd_T28 l0 a3_0).f4) a3_1).f1)).f4) == 1)] (by rfl) rfl rfl rfl (by first | rfl | (try simp only [List.map_toArray, List.map_cons, List.map_nil]); first | done | rfl | (simp only [List.length_drop, List.length_take]; rfl)) ?_
   with_reducible refine (table_entry_caps.calls t603 t604 t605 t606 t607 t608 t609 t610 t611 t612 t613 t614 (((rd_T35 ((rd_T28 l0 a3_0).f3) ((rd_T72 ((rd_T28 l0 a3_0).f4) a3_1).f1)).f4) == 1) t619 _ A20.out).mono ?_
   rintro e w64 ⟨v620, rfl, ho0, hb⟩
   refine ⟨_, rfl, ?_⟩
   have n0_ := am (Kd.R_lower (Kd.R_newB (Kd.R_newB ho0 (g := gb615) (o := .cells #[.int .u64 t603, .int .u64 t604, .int .u64 t605, .int .i64 t606, .int .i64 t607, .bool t608] 37 (0, 0)) (ub BK615.out)) (g := gb616) (o := .cells #[.int .u64 t609, .int .u64 t610, .int .u64 t611, .int .i64 t612, .int .i64 t613, .bool t614] 37 (0, 0)) (ub BK616.out)) (below_size (uc HB.out)))
   have n1_ := bw BK594 hb
   have n2_ := bw BK597 hb
   have n3_ := bw BK599 hb
   have n4_ := bw BK615 hb
   have n5_ := bw BK616 hb
   have n6_ := bs HB hb
   revert n0_ n1_ n2_ n3_ n4_ n5_ n6_
   clear BK594 BK597 BK599 BK615 BK616 HB
   intro HO621 BK594 BK597 BK599 BK615 BK616 HB
   (try clear hb)
   (try clear hb2)
   (try clear hk)
   (try clear hi)
   (try clear ho0)
   refine hK.out _ _ ⟨cz BK594 0, cz BK594 1, cz BK594 2, cz BK594 3, cz BK597 0, cz BK597 1, (bcel HB hw617_0 :), (bcel HB hw617_1 :), (bcel HB hw617_2 :), (bcel HB hw617_3 :), (bcel HB hw617_4 :), (bcel HB hw617_5 :), (bcel HB hw617_6 :), (bcel HB hw618_0 :), (bcel HB hw618_1 :), (bcel HB hw618_2 :), (bcel HB hw618_3 :), (bcel HB hw618_4 :), (bcel HB hw618_5 :), (bcel HB hw618_6 :), (bcel HB hw618_7 :), (bcel HB hw622_0 :)⟩ (fun hHeld => ?_)
   clear hK K
   refine norm_ (a' := ?_) ?_ ?_
   rotate_left
   ·show Act.put _ (some 91) _ = _
    simp only [Act.put, List.setIfInBounds_toArray, List.set_cons_zero, List.set_cons_succ, i64_w, i32_w]
    rfl
   refine pv 25 8 (bA 27 67108863) HT_ ?_
   refine pv 26 9 (bA 27 134217727) HT_ ?_
   refine done_ (done_of HT_.out (by kernel_rfl)) ?_
   try go_wp2
   go_ret2
   exact ⟨_, by first | rfl | (simp [errW_none, errW_some] <;> rfl) | (simp [*, errW_none, errW_some] <;> rfl), by (with_reducible repeat (first | apply Kd.R_alloc | apply Kd.R_drewN | apply Kd.R_drew)); exact Kd.R_mono HO621.out (fun _ hk => trivial), uc HB.out⟩
  ·rw [if_neg c14] at H
   have c14b0 := beq_eq_false_iff_ne.mpr c14
   have c14b1 := bne_iff_ne.mpr c14
   obtain ⟨c65, H⟩ := ic H
   have c65b0 : decide (a3_2 < (l1.length : Int)) = true := decide_eq_true c65
   clear c65
   replace H := Option.bind_eq_some_iff.mp H
   obtain ⟨⟨t624, t625, t626, t627, t628, t629⟩, A660, H⟩ := H
   replace H : (if 0 ≤ ((rd_T72 ((rd_T28 l0 a3_0).f4) a3_1).f1) then (if ((rd_T72 ((rd_T28 l0 a3_0).f4) a3_1).f1) < (((rd_T28 l0 a3_0).f3).length : Int) then ((table_bytes_caps.f t624 t625 t626 t627 t628 t629 (((rd_T35 ((rd_T28 l0 a3_0).f3) ((rd_T72 ((rd_T28 l0 a3_0).f4) a3_1).f1)).f4) == 1)).bind fun t632 => (if a3_0 < (l1.length : Int) then (some (t632, IntKind.u64.wrap ((rd l1 a3_0) + ((rd_T72 ((rd_T28 l0 a3_0).f4) a3_1).f0)))) else (none))) else (none)) else (none)) = some (r1, r2) := H
   have A66 := am A660
   clear A660
   obtain ⟨c67, H⟩ := ic H
   have c67b0 : decide (0 ≤ ((rd_T72 ((rd_T28 l0 a3_0).f4) a3_1).f1)) = true := decide_eq_true c67
   clear c67
   obtain ⟨c68, H⟩ := ic H
   have c68b0 : decide (((rd_T72 ((rd_T28 l0 a3_0).f4) a3_1).f1) < (((rd_T28 l0 a3_0).f3).length : Int)) = true := decide_eq_true c68
   clear c68
   replace H := Option.bind_eq_some_iff.mp H
   obtain ⟨t632, A690, H⟩ := H
   replace H : (if a3_0 < (l1.length : Int) then (some (t632, IntKind.u64.wrap ((rd l1 a3_0) + ((rd_T72 ((rd_T28 l0 a3_0).f4) a3_1).f0)))) else (none)) = some (r1, r2) := H
   have A69 := am A690
   clear A690
   obtain ⟨c70, H⟩ := ic H
   have c70b0 : decide (a3_0 < (l1.length : Int)) = true := decide_eq_true c70
   clear c70
   simp only [Option.some.injEq, Prod.mk.injEq] at H
   obtain ⟨rfl, rfl⟩ := H
   go_enter Try.func12, Try.ntmps12
   try go_wp2_with (first | ((with_reducible refine gate_dst (N := 7) rfl ?_); refine box_event ?hg (N := 7) ?hd (cs := #[.int .i64 a3_0, .int .i64 a3_1, .int .i64 a3_2, .int .i64 a3_3]) (t := 44) ?hr ?_; (case hd => rfl); (case hg => rfl); (case hr => first | (go_simp; done) | (go_simp; rfl)); intro gb594 hg w71 hbox hb; have n0_ := bs HB hb; have n1_ := am (hbox); have n2_ := nz HB hg; have n3_ := nz HB hg; revert n0_ n1_ n2_ n3_; clear HB; intro HB BK594 GW594 GE594; clear hb hbox hg))
   have n0_ := am (blk_drew BK594.out)
   have n1_ := am (below_drew1 HB.out)
   revert n0_ n1_
   clear BK594 HB
   intro BK594 HB
   have p595 : 0 ≤ (a3_0 : Int) := ud
   have q595 : a3_0 < (l0.length : Int) := ud
   obtain ⟨ad595, A595_1, c595_1, A595_2, c595_2, A595_3, c595_3, A595_4, c595_4, A595_5, c595_5, A595_6, c595_6, e595, hx595_0, hx595_1, hx595_2, hx595_3, hx595_4, hx595_5, hx595_6, hl595_1, hi595_1, hl595_2, hi595_2, hl595_3, hi595_3, hl595_4, hi595_4, hl595_5, hi595_5, hl595_6, hi595_6⟩ := at_T28 HR0.out a3_0 p595 q595
   have hw595_6 := hx595_6
   have hw595_5 := hx595_5
   have hw595_4 := hx595_4
   have hw595_3 := hx595_3
   have hw595_2 := hx595_2
   have hw595_1 := hx595_1
   have hw595_0 := hx595_0
   cases e595
   replace hx595_0 := bcel HB hx595_0
   replace hx595_1 := bcel HB hx595_1
   replace hx595_2 := bcel HB hx595_2
   replace hx595_3 := bcel HB hx595_3
   replace hx595_4 := bcel HB hx595_4
   replace hx595_5 := bcel HB hx595_5
   replace hx595_6 := bcel HB hx595_6
   have HR595_1 := am hi595_1
   have HC595_1 := am hl595_1
   clear hi595_1 hl595_1
   have HR595_2 := am hi595_2
   have HC595_2 := am hl595_2
   clear hi595_2 hl595_2
   have HR595_3 := am hi595_3
   have HC595_3 := am hl595_3
   clear hi595_3 hl595_3
   have HR595_4 := am hi595_4
   have HC595_4 := am hl595_4
   clear hi595_4 hl595_4
   have HR595_5 := am hi595_5
   have HC595_5 := am hl595_5
   clear hi595_5 hl595_5
   have HR595_6 := am hi595_6
   have HC595_6 := am hl595_6
   clear hi595_6 hl595_6
   replace p595 := eq_true p595
   replace q595 := eq_true q595
   have p596 : 0 ≤ (a3_1 : Int) := ud
   have q596 : a3_1 < (((rd_T28 l0 a3_0).f4).length : Int) := ud
   obtain ⟨ad596, e596, hx596_0, hx596_1⟩ := at_T72 HR595_4.out a3_1 p596 q596
   have hw596_1 := hx596_1
   have hw596_0 := hx596_0
   cases e596
   replace hx596_0 := bcel HB hx596_0
   replace hx596_1 := bcel HB hx596_1
   replace p596 := eq_true p596
   replace q596 := eq_true q596
   refine sr 12 [] (hB4 BK594 (hA (bcel HB hw595_0 :) (hA (bcel HB hw595_1 :) (hA (bcel HB hw595_2 :) (hA (bcel HB hw595_3 :) (hA (bcel HB hw595_4 :) (hA (bcel HB hw595_5 :) (hA (bcel HB hw595_6 :) (hA (bcel HB hw596_0 :) (hZ (bcel HB hw596_1 :))))))))))) (fun hHeld => ?_); refine with_tabW table_Slot.tab1 table_Slot.bits1 (fun HT_ HW_ => ?_)
   generalize w71.drew = w72 at BK594 HB HR595_1 HR595_2 HR595_3 HR595_4 HR595_5 HR595_6 hx595_0 hx595_1 hx595_2 hx595_3 hx595_4 hx595_5 hx595_6 hx596_0 hx596_1 hHeld ⊢
   refine pv 0 15 (bA 12 1) HT_ ?_
   refine pv 1 16 (bA 12 3) HT_ ?_
   refine pv 6 21 (bA 12 67) HT_ ?_
   refine tv 2 17 (bA 12 71) HT_ HW_ hHeld ?_ (hy := by rintro w' ⟨s0, s1, s2, s3, s4, s5, s6, s7, s8, s9, s10, s11, s12⟩; go_simp; with_reducible rfl)
   refine pv 3 18 (bA 12 79) HT_ ?_
   refine pv 4 19 (bA 12 95) HT_ ?_
   refine tv 5 20 (bA 12 127) HT_ HW_ hHeld ?_ (hy := by rintro w' ⟨s0, s1, s2, s3, s4, s5, s6, s7, s8, s9, s10, s11, s12⟩; go_simp; with_reducible rfl)
   refine tv 7 22 (bA 12 255) HT_ HW_ hHeld ?_ (hy := by rintro w' ⟨s0, s1, s2, s3, s4, s5, s6, s7, s8, s9, s10, s11, s12⟩; go_simp; with_reducible rfl)
   refine pv 8 23 (bA 12 511) HT_ ?_
   refine tv 9 24 (bA 12 1023) HT_ HW_ hHeld ?_ (hy := by rintro w' ⟨s0, s1, s2, s3, s4, s5, s6, s7, s8, s9, s10, s11, s12⟩; go_simp; with_reducible rfl)
   refine one_ (i := 10) (N := some 10) (bA 12 2047) rfl rfl (one_of HT_.out (by kernel_rfl)) (by decide) (fun K hK => ?_)
   refine box_step ?hg (N := 10) ?hd (cs := #[.int .u64 0, .int .i64 0]) (t := 72) ?hr ?_; (case hd => rfl); (case hg => rfl); (case hr => first | (go_simp; done) | (go_simp; rfl))
   intro gb597 hg w73 hbox hb
   have n0_ := bw BK594 hb
   have n1_ := bs HB hb
   have n2_ := am (hbox)
   have n3_ := nz HB hg
   have n4_ := nz HB hg
   have n5_ := nl BK594 hg
   have n6_ := nr BK594 hg
   revert n0_ n1_ n2_ n3_ n4_ n5_ n6_
   clear BK594 HB
   intro BK594 HB BK597 GW597 GE597 NB594_597 NB597_594
   clear hb hbox hg
   refine hK.out _ _ ⟨cz BK594 0, cz BK594 1, cz BK594 2, cz BK594 3, (bcel HB hw595_0 :), (bcel HB hw595_1 :), (bcel HB hw595_2 :), (bcel HB hw595_3 :), (bcel HB hw595_4 :), (bcel HB hw595_5 :), (bcel HB hw595_6 :), (bcel HB hw596_0 :), (bcel HB hw596_1 :)⟩ (fun hHeld => ?_)
   clear hK K
   refine norm_ (a' := ?_) ?_ ?_
   rotate_left
   ·show Act.put _ (some 10) _ = _
    simp only [Act.put, List.setIfInBounds_toArray, List.set_cons_zero, List.set_cons_succ, i64_w, i32_w]
    rfl
   refine one_ (i := 11) (N := none) (bA 12 4095) rfl rfl (one_of HT_.out (by kernel_rfl)) (by decide) (fun K hK => ?_)
   have hs74 : w73.cell? ⟨gb597, 0, none⟩ = some (.int .u64 0) := cz BK597 0
   have hfs74 := fz BK597 0
   have hns74_0 := NB594_597.out
   have hms74_0 := NB597_594.out
   have hs75 : w73.cell? ⟨gb597, 1, none⟩ = some (.int .i64 0) := cz BK597 1
   have hfs75 := fz BK597 1
   have hns75_0 := NB594_597.out
   have hms75_0 := NB597_594.out
   refine skip_ (w1 := ?_) (by rfl) rfl ?_ ?_
   rotate_left
   ·go_simp
    rfl
   refine hK.out _ _ ⟨((cnf2 (NB594_597.out)).trans (hHeld.1)), ((cnf2 (NB594_597.out)).trans (hHeld.2.1)), ((cnf2 (NB594_597.out)).trans (hHeld.2.2.1)), ((cnf2 (NB594_597.out)).trans (hHeld.2.2.2.1)), ((cfar2 hw595_0 GW597.out).trans (hHeld.2.2.2.2.1)), ((cfar2 hw595_1 GW597.out).trans (hHeld.2.2.2.2.2.1)), ((cfar2 hw595_2 GW597.out).trans (hHeld.2.2.2.2.2.2.1)), ((cfar2 hw595_3 GW597.out).trans (hHeld.2.2.2.2.2.2.2.1)), ((cfar2 hw595_4 GW597.out).trans (hHeld.2.2.2.2.2.2.2.2.1)), ((cfar2 hw595_5 GW597.out).trans (hHeld.2.2.2.2.2.2.2.2.2.1)), ((cfar2 hw595_6 GW597.out).trans (hHeld.2.2.2.2.2.2.2.2.2.2.1)), ((cfar2 hw596_0 GW597.out).trans (hHeld.2.2.2.2.2.2.2.2.2.2.2.1)), ((cfar2 hw596_1 GW597.out).trans (hHeld.2.2.2.2.2.2.2.2.2.2.2.2))⟩ (fun hHeld => ?_)
   clear hK K
   refine done_ (done_of HT_.out (by kernel_rfl)) ?_
   have hnb76 := NB594_597.out
   have hnc76 := NB597_594.out
   obtain ⟨hcz77_0, hcz77_1, hcz77_2, hcz77_3, hfz77_0, hfz77_1, hfz77_2, hfz77_3⟩ := cl4 BK594
   have p598 : 0 ≤ (a3_2 : Int) := ud
   have q598 : a3_2 < (l0.length : Int) := ud
   obtain ⟨ad598, A598_1, c598_1, A598_2, c598_2, A598_3, c598_3, A598_4, c598_4, A598_5, c598_5, A598_6, c598_6, e598, hx598_0, hx598_1, hx598_2, hx598_3, hx598_4, hx598_5, hx598_6, hl598_1, hi598_1, hl598_2, hi598_2, hl598_3, hi598_3, hl598_4, hi598_4, hl598_5, hi598_5, hl598_6, hi598_6⟩ := at_T28 HR0.out a3_2 p598 q598
   obtain rfl : ad595 = ad598 := (by injection e598)
   have hn598_0 : ad595.block ≠ gb597 := Nat.ne_of_lt (Nat.lt_of_lt_of_le (by have := World.block_lt_of_cell? _ _ hx598_0; first | rwa [add_block] at this | exact this) GW597.out)
   have hn598_1 : ad595.block ≠ gb597 := Nat.ne_of_lt (Nat.lt_of_lt_of_le (by have := World.block_lt_of_cell? _ _ hx598_0; first | rwa [add_block] at this | exact this) GW597.out)
   replace hx598_0 := bcel HB hx598_0
   replace hx598_1 := bcel HB hx598_1
   replace hx598_2 := bcel HB hx598_2
   replace hx598_3 := bcel HB hx598_3
   replace hx598_4 := bcel HB hx598_4
   replace hx598_5 := bcel HB hx598_5
   replace hx598_6 := bcel HB hx598_6
   have HR598_1 := am hi598_1
   have HC598_1 := am hl598_1
   clear hi598_1 hl598_1
   have HR598_2 := am hi598_2
   have HC598_2 := am hl598_2
   clear hi598_2 hl598_2
   have HR598_3 := am hi598_3
   have HC598_3 := am hl598_3
   clear hi598_3 hl598_3
   have HR598_4 := am hi598_4
   have HC598_4 := am hl598_4
   clear hi598_4 hl598_4
   have HR598_5 := am hi598_5
   have HC598_5 := am hl598_5
   clear hi598_5 hl598_5
   have HR598_6 := am hi598_6
   have HC598_6 := am hl598_6
   clear hi598_6 hl598_6
   replace hx598_0 := (cne 0 hn598_0 (.int .u64 ((rd_T72 ((rd_T28 l0 a3_0).f4) a3_1).f0))).trans hx598_0
   replace hx598_1 := (cne 0 hn598_0 (.int .u64 ((rd_T72 ((rd_T28 l0 a3_0).f4) a3_1).f0))).trans hx598_1
   replace hx598_2 := (cne 0 hn598_0 (.int .u64 ((rd_T72 ((rd_T28 l0 a3_0).f4) a3_1).f0))).trans hx598_2
   replace hx598_3 := (cne 0 hn598_0 (.int .u64 ((rd_T72 ((rd_T28 l0 a3_0).f4) a3_1).f0))).trans hx598_3
   replace hx598_4 := (cne 0 hn598_0 (.int .u64 ((rd_T72 ((rd_T28 l0 a3_0).f4) a3_1).f0))).trans hx598_4
   replace hx598_5 := (cne 0 hn598_0 (.int .u64 ((rd_T72 ((rd_T28 l0 a3_0).f4) a3_1).f0))).trans hx598_5
   replace hx598_6 := (cne 0 hn598_0 (.int .u64 ((rd_T72 ((rd_T28 l0 a3_0).f4) a3_1).f0))).trans hx598_6
   replace hx598_0 := (cne 1 hn598_1 (.int .i64 ((rd_T72 ((rd_T28 l0 a3_0).f4) a3_1).f1))).trans hx598_0
   replace hx598_1 := (cne 1 hn598_1 (.int .i64 ((rd_T72 ((rd_T28 l0 a3_0).f4) a3_1).f1))).trans hx598_1
   replace hx598_2 := (cne 1 hn598_1 (.int .i64 ((rd_T72 ((rd_T28 l0 a3_0).f4) a3_1).f1))).trans hx598_2
   replace hx598_3 := (cne 1 hn598_1 (.int .i64 ((rd_T72 ((rd_T28 l0 a3_0).f4) a3_1).f1))).trans hx598_3
   replace hx598_4 := (cne 1 hn598_1 (.int .i64 ((rd_T72 ((rd_T28 l0 a3_0).f4) a3_1).f1))).trans hx598_4
   replace hx598_5 := (cne 1 hn598_1 (.int .i64 ((rd_T72 ((rd_T28 l0 a3_0).f4) a3_1).f1))).trans hx598_5
   replace hx598_6 := (cne 1 hn598_1 (.int .i64 ((rd_T72 ((rd_T28 l0 a3_0).f4) a3_1).f1))).trans hx598_6
   clear hn598_0 hn598_1
   replace p598 := eq_true p598
   replace q598 := eq_true q598
   try go_wp2_with (first | ((with_reducible refine gate_dst (N := 12) rfl ?_); refine box_event ?hg (N := 12) ?hd (cs := #[.string (⟨#[]⟩ : ByteArray), .slice none 0 0, .slice none 0 0, .slice none 0 0, .slice none 0 0, .slice none 0 0, .slice none 0 0]) (t := 28) ?hr ?_; (case hd => rfl); (case hg => rfl); (case hr => first | (go_simp; done) | (go_simp; rfl)); intro gb599 hg w78 hbox hb; have n0_ := am (blk_below (g := gb594) (o := .cells #[.int .i64 a3_0, .int .i64 a3_1, .int .i64 a3_2, .int .i64 a3_3] 44 (0, 0)) (by (iterate 2 ((with_reducible repeat (first | refine blk_drewN ?_ _ | refine blk_drew ?_ | refine blk_alloc ?_ _)); refine blk_far ?_ NB594_597.out _)); (with_reducible repeat (first | refine blk_drewN ?_ _ | refine blk_drew ?_ | refine blk_alloc ?_ _)); exact BK594.out) hb); have n1_ := am (blk_below (g := gb597) (o := .cells #[.int .u64 ((rd_T72 ((rd_T28 l0 a3_0).f4) a3_1).f0), .int .i64 ((rd_T72 ((rd_T28 l0 a3_0).f4) a3_1).f1)] 72 (0, 0)) (by (with_reducible repeat (first | refine blk_drewN ?_ _ | refine blk_drew ?_ | refine blk_alloc ?_ _)); refine blk_put (cs := #[.int .u64 ((rd_T72 ((rd_T28 l0 a3_0).f4) a3_1).f0), .int .i64 0]) ?_ 1 _ rfl; (with_reducible repeat (first | refine blk_drewN ?_ _ | refine blk_drew ?_ | refine blk_alloc ?_ _)); refine blk_put (cs := #[.int .u64 0, .int .i64 0]) ?_ 0 _ rfl; (with_reducible repeat (first | refine blk_drewN ?_ _ | refine blk_drew ?_ | refine blk_alloc ?_ _)); exact BK597.out) hb); have n2_ := bs HB hb; have n3_ := am (hbox); have n4_ := nz HB hg; have n5_ := nz HB hg; have n6_ := am ((by rw [hg]; exact Nat.ne_of_lt (blk_lt (g := gb594) (o := .cells #[.int .i64 a3_0, .int .i64 a3_1, .int .i64 a3_2, .int .i64 a3_3] 44 (0, 0)) (by (iterate 2 ((with_reducible repeat (first | refine blk_drewN ?_ _ | refine blk_drew ?_ | refine blk_alloc ?_ _)); refine blk_far ?_ NB594_597.out _)); (with_reducible repeat (first | refine blk_drewN ?_ _ | refine blk_drew ?_ | refine blk_alloc ?_ _)); exact BK594.out)) : gb594 ≠ gb599)); have n7_ := am ((by rw [hg]; exact Nat.ne_of_gt (blk_lt (g := gb594) (o := .cells #[.int .i64 a3_0, .int .i64 a3_1, .int .i64 a3_2, .int .i64 a3_3] 44 (0, 0)) (by (iterate 2 ((with_reducible repeat (first | refine blk_drewN ?_ _ | refine blk_drew ?_ | refine blk_alloc ?_ _)); refine blk_far ?_ NB594_597.out _)); (with_reducible repeat (first | refine blk_drewN ?_ _ | refine blk_drew ?_ | refine blk_alloc ?_ _)); exact BK594.out)) : gb599 ≠ gb594)); have n8_ := am ((by rw [hg]; exact Nat.ne_of_lt (blk_lt (g := gb597) (o := .cells #[.int .u64 ((rd_T72 ((rd_T28 l0 a3_0).f4) a3_1).f0), .int .i64 ((rd_T72 ((rd_T28 l0 a3_0).f4) a3_1).f1)] 72 (0, 0)) (by (with_reducible repeat (first | refine blk_drewN ?_ _ | refine blk_drew ?_ | refine blk_alloc ?_ _)); refine blk_put (cs := #[.int .u64 ((rd_T72 ((rd_T28 l0 a3_0).f4) a3_1).f0), .int .i64 0]) ?_ 1 _ rfl; (with_reducible repeat (first | refine blk_drewN ?_ _ | refine blk_drew ?_ | refine blk_alloc ?_ _)); refine blk_put (cs := #[.int .u64 0, .int .i64 0]) ?_ 0 _ rfl; (with_reducible repeat (first | refine blk_drewN ?_ _ | refine blk_drew ?_ | refine blk_alloc ?_ _)); exact BK597.out)) : gb597 ≠ gb599)); have n9_ := am ((by rw [hg]; exact Nat.ne_of_gt (blk_lt (g := gb597) (o := .cells #[.int .u64 ((rd_T72 ((rd_T28 l0 a3_0).f4) a3_1).f0), .int .i64 ((rd_T72 ((rd_T28 l0 a3_0).f4) a3_1).f1)] 72 (0, 0)) (by (with_reducible repeat (first | refine blk_drewN ?_ _ | refine blk_drew ?_ | refine blk_alloc ?_ _)); refine blk_put (cs := #[.int .u64 ((rd_T72 ((rd_T28 l0 a3_0).f4) a3_1).f0), .int .i64 0]) ?_ 1 _ rfl; (with_reducible repeat (first | refine blk_drewN ?_ _ | refine blk_drew ?_ | refine blk_alloc ?_ _)); refine blk_put (cs := #[.int .u64 0, .int .i64 0]) ?_ 0 _ rfl; (with_reducible repeat (first | refine blk_drewN ?_ _ | refine blk_drew ?_ | refine blk_alloc ?_ _)); exact BK597.out)) : gb599 ≠ gb597)); revert n0_ n1_ n2_ n3_ n4_ n5_ n6_ n7_ n8_ n9_; clear BK594 BK597 HB; intro BK594 BK597 HB BK599 GW599 GE599 NB594_599 NB599_594 NB597_599 NB599_597; clear hb hbox hg; have hnb79 := NB599_594.out; have hnc79 := NB594_599.out; have hnb80 := NB599_597.out; have hnc80 := NB597_599.out; have hcz81_0 : w78.cell? ⟨gb599, 0, none⟩ = some (.string (⟨#[]⟩ : ByteArray)) := cz BK599 0; have hcz81_1 : w78.cell? ⟨gb599, 1, none⟩ = some (.slice none 0 0) := cz BK599 1; have hcz81_2 : w78.cell? ⟨gb599, 2, none⟩ = some (.slice none 0 0) := cz BK599 2; have hcz81_3 : w78.cell? ⟨gb599, 3, none⟩ = some (.slice none 0 0) := cz BK599 3; have hcz81_4 : w78.cell? ⟨gb599, 4, none⟩ = some (.slice none 0 0) := cz BK599 4; have hcz81_5 : w78.cell? ⟨gb599, 5, none⟩ = some (.slice none 0 0) := cz BK599 5; have hcz81_6 : w78.cell? ⟨gb599, 6, none⟩ = some (.slice none 0 0) := cz BK599 6; have hfz81_0 := fz BK599 0; have hfz81_1 := fz BK599 1; have hfz81_2 := fz BK599 2; have hfz81_3 := fz BK599 3; have hfz81_4 := fz BK599 4; have hfz81_5 := fz BK599 5; have hfz81_6 := fz BK599 6) | ((with_reducible refine gate_store (t := 28) (p := 12) rfl ?_); refine store_event (t := 28) (p := 12) (v := ?vo_w82) (w1 := (((((((w78.setCell ⟨gb599, 0, none⟩ (.string ((rd_T28 l0 a3_2).f0))).setCell ⟨gb599, 1, none⟩ (.slice A598_1 ((rd_T28 l0 a3_2).f1).length c598_1)).setCell ⟨gb599, 2, none⟩ (.slice A598_2 ((rd_T28 l0 a3_2).f2).length c598_2)).setCell ⟨gb599, 3, none⟩ (.slice A598_3 ((rd_T28 l0 a3_2).f3).length c598_3)).setCell ⟨gb599, 4, none⟩ (.slice A598_4 ((rd_T28 l0 a3_2).f4).length c598_4)).setCell ⟨gb599, 5, none⟩ (.slice A598_5 ((rd_T28 l0 a3_2).f5).length c598_5)).setCell ⟨gb599, 6, none⟩ (.slice A598_6 ((rd_T28 l0 a3_2).f6).length c598_6))) ?hg ?ho ?hn ?hr ?_; (case ho => rfl); (case hg => rfl); (case hn => rfl); (case hr => first | (go_simp; done) | (go_simp; rfl)); intro w82 hw; have n0_ := bf7 hw NB594_599 BK594; have n1_ := bf7 hw NB597_599 BK597; have n2_ := bp7 #[.string ((rd_T28 l0 a3_2).f0), .slice A598_1 ((rd_T28 l0 a3_2).f1).length c598_1, .slice A598_2 ((rd_T28 l0 a3_2).f2).length c598_2, .slice A598_3 ((rd_T28 l0 a3_2).f3).length c598_3, .slice A598_4 ((rd_T28 l0 a3_2).f4).length c598_4, .slice A598_5 ((rd_T28 l0 a3_2).f5).length c598_5, .slice A598_6 ((rd_T28 l0 a3_2).f6).length c598_6] hw BK599; have n3_ : Aside0 (Below w.heap.size w w82) := ⟨(by rw [hw]; exact (uc HB.out))⟩; revert n0_ n1_ n2_ n3_; clear hw BK594 BK597 BK599 HB; intro BK594 BK597 BK599 HB; have hcz83_0 : w82.cell? ⟨gb599, 0, none⟩ = some (.string ((rd_T28 l0 a3_2).f0)) := cz BK599 0; have hcz83_1 : w82.cell? ⟨gb599, 1, none⟩ = some (.slice A598_1 ((rd_T28 l0 a3_2).f1).length c598_1) := cz BK599 1; have hcz83_2 : w82.cell? ⟨gb599, 2, none⟩ = some (.slice A598_2 ((rd_T28 l0 a3_2).f2).length c598_2) := cz BK599 2; have hcz83_3 : w82.cell? ⟨gb599, 3, none⟩ = some (.slice A598_3 ((rd_T28 l0 a3_2).f3).length c598_3) := cz BK599 3; have hcz83_4 : w82.cell? ⟨gb599, 4, none⟩ = some (.slice A598_4 ((rd_T28 l0 a3_2).f4).length c598_4) := cz BK599 4; have hcz83_5 : w82.cell? ⟨gb599, 5, none⟩ = some (.slice A598_5 ((rd_T28 l0 a3_2).f5).length c598_5) := cz BK599 5; have hcz83_6 : w82.cell? ⟨gb599, 6, none⟩ = some (.slice A598_6 ((rd_T28 l0 a3_2).f6).length c598_6) := cz BK599 6; have hfz83_0 := fz BK599 0; have hfz83_1 := fz BK599 1; have hfz83_2 := fz BK599 2; have hfz83_3 := fz BK599 3; have hfz83_4 := fz BK599 4; have hfz83_5 := fz BK599 5; have hfz83_6 := fz BK599 6; have hcz84_0 : w82.cell? ⟨gb594, 0, none⟩ = some (.int .i64 a3_0) := cz BK594 0; have hcz84_1 : w82.cell? ⟨gb594, 1, none⟩ = some (.int .i64 a3_1) := cz BK594 1; have hcz84_2 : w82.cell? ⟨gb594, 2, none⟩ = some (.int .i64 a3_2) := cz BK594 2; have hcz84_3 : w82.cell? ⟨gb594, 3, none⟩ = some (.int .i64 a3_3) := cz BK594 3; have hfz84_0 := fz BK594 0; have hfz84_1 := fz BK594 1; have hfz84_2 := fz BK594 2; have hfz84_3 := fz BK594 3; have p600 : 0 ≤ (a3_3 : Int) := ud; have q600 : a3_3 < (((rd_T28 l0 a3_2).f3).length : Int) := ud; obtain ⟨ad600, e600, hx600_0, hx600_1, hx600_2, hx600_3, hx600_4, hx600_5, hx600_6, hx600_7⟩ := at_T35 HR598_3.out a3_3 p600 q600; cases e600; replace hx600_0 := bcel HB hx600_0; replace hx600_1 := bcel HB hx600_1; replace hx600_2 := bcel HB hx600_2; replace hx600_3 := bcel HB hx600_3; replace hx600_4 := bcel HB hx600_4; replace hx600_5 := bcel HB hx600_5; replace hx600_6 := bcel HB hx600_6; replace hx600_7 := bcel HB hx600_7; replace p600 := eq_true p600; replace q600 := eq_true q600))
   have n0_ := am (blk_drew BK594.out)
   have n1_ := am (blk_drew BK597.out)
   have n2_ := am (blk_drew BK599.out)
   have n3_ := am (below_drew1 HB.out)
   revert n0_ n1_ n2_ n3_
   clear BK594 BK597 BK599 HB
   intro BK594 BK597 BK599 HB
   have p623 : 0 ≤ (a3_2 : Int) := ud
   have q623 : a3_2 < (l1.length : Int) := ud
   obtain ⟨ad623, e623, hx623_0⟩ := Kd.at_int HR1.out a3_2 p623 q623
   have hw623_0 := hx623_0
   cases e623
   replace hx623_0 := bcel HB hx623_0
   replace p623 := eq_true p623
   replace q623 := eq_true q623
   refine sr 12 [] (hB7 BK599 (hB4 BK594 (hZ (bcel HB hw623_0 :)))) (fun hHeld => ?_); refine with_tabW table_Slot.tab8 table_Slot.bits8 (fun HT_ HW_ => ?_)
   generalize w82.drew = w85 at BK594 BK597 BK599 HB hx623_0 hHeld ⊢
   refine pv 1 65 (bA 12 2) HT_ ?_
   refine pv 2 66 (bA 12 6) HT_ ?_
   refine pv 6 70 (bA 12 70) HT_ ?_
   refine tv 0 64 (bA 12 71) HT_ HW_ hHeld ?_ (hy := by rintro w' ⟨s0, s1, s2, s3, s4, s5, s6, s7, s8, s9, s10, s11⟩; go_simp; with_reducible rfl)
   refine tv 3 67 (bA 12 79) HT_ HW_ hHeld ?_ (hy := by rintro w' ⟨s0, s1, s2, s3, s4, s5, s6, s7, s8, s9, s10, s11⟩; go_simp; with_reducible rfl)
   refine pv 4 68 (bA 12 95) HT_ ?_
   refine tv 5 69 (bA 12 127) HT_ HW_ hHeld ?_ (hy := by rintro w' ⟨s0, s1, s2, s3, s4, s5, s6, s7, s8, s9, s10, s11⟩; go_simp; with_reducible rfl)
   refine tv 7 71 (bA 12 255) HT_ HW_ hHeld ?_ (hy := by rintro w' ⟨s0, s1, s2, s3, s4, s5, s6, s7, s8, s9, s10, s11⟩; go_simp; with_reducible rfl)
   refine one_ (i := 8) (N := some 72) (bA 12 511) rfl rfl (one_of HT_.out (by kernel_rfl)) (by decide) (fun K hK => ?_)
   refine goes_ Try.func8 (by kernel_rfl) rfl #[.agg #[.string ((rd_T28 l0 a3_2).f0), .slice A598_1 ((rd_T28 l0 a3_2).f1).length c598_1, .slice A598_2 ((rd_T28 l0 a3_2).f2).length c598_2, .slice (some ad600) ((rd_T28 l0 a3_2).f3).length c598_3, .slice A598_4 ((rd_T28 l0 a3_2).f4).length c598_4, .slice A598_5 ((rd_T28 l0 a3_2).f5).length c598_5, .slice A598_6 ((rd_T28 l0 a3_2).f6).length c598_6], .int .u64 (rd l1 a3_2), .int .i64 a3_3] (by rfl) rfl rfl (by (try simp only [List.map_toArray, List.map_cons, List.map_nil]); first | done | rfl | (simp only [List.length_drop, List.length_take]; rfl)) ?_
   with_reducible refine (table_Data.calls k ((rd_T28 l0 a3_2).f0) _ _ ((rd_T28 l0 a3_2).f1) _ _ ((rd_T28 l0 a3_2).f2) _ _ ((rd_T28 l0 a3_2).f3) _ _ ((rd_T28 l0 a3_2).f4) _ _ ((rd_T28 l0 a3_2).f5) _ _ ((rd_T28 l0 a3_2).f6) (rd l1 a3_2) a3_3 t624 t625 t626 t627 t628 t629 _ ?side1 ?side2 ?side3 ?side4 ?side5 ?side6 ?side7 ?side8 ?side9 ?side10 ?side11 ?side12 A66.out).mono ?_
   (case side1 => exact us (Kd.C_below HR598_1.out HB.out))
   (case side2 => exact HC598_1.out)
   (case side3 => exact us (Kd.C_below HR598_2.out HB.out))
   (case side4 => exact HC598_2.out)
   (case side5 => exact us (Kd.C_below HR598_3.out HB.out))
   (case side6 => exact HC598_3.out)
   (case side7 => exact us (Kd.C_below HR598_4.out HB.out))
   (case side8 => exact HC598_4.out)
   (case side9 => exact us (Kd.C_below HR598_5.out HB.out))
   (case side10 => exact HC598_5.out)
   (case side11 => exact us (Kd.C_below HR598_6.out HB.out))
   (case side12 => exact HC598_6.out)
   rintro e w86 ⟨rfl, hb⟩
   refine ⟨_, rfl, ?_⟩
   have n0_ := bw BK594 hb
   have n1_ := bw BK597 hb
   have n2_ := bw BK599 hb
   have n3_ := bs HB hb
   revert n0_ n1_ n2_ n3_
   clear BK594 BK597 BK599 HB
   intro BK594 BK597 BK599 HB
   (try clear hb)
   (try clear hb2)
   (try clear hk)
   (try clear hi)
   refine hK.out _ _ ⟨cz BK599 0, cz BK599 1, cz BK599 2, cz BK599 3, cz BK599 4, cz BK599 5, cz BK599 6, cz BK594 0, cz BK594 1, cz BK594 2, cz BK594 3, (bcel HB hw623_0 :)⟩ (fun hHeld => ?_)
   clear hK K
   refine norm_ (a' := ?_) ?_ ?_
   rotate_left
   ·show Act.put _ (some 72) _ = _
    simp only [Act.put, List.setIfInBounds_toArray, List.set_cons_zero, List.set_cons_succ, i64_w, i32_w]
    rfl
   refine pv 9 73 (bA 12 1023) HT_ ?_
   refine pv 10 74 (bA 12 2047) HT_ ?_
   refine pv 11 11 (bA 12 4095) HT_ ?_
   refine done_ (done_of HT_.out (by kernel_rfl)) ?_
   try go_wp2
   have n0_ := am (blk_drew BK594.out)
   have n1_ := am (blk_drew BK597.out)
   have n2_ := am (blk_drew BK599.out)
   have n3_ := am (below_drew1 HB.out)
   revert n0_ n1_ n2_ n3_
   clear BK594 BK597 BK599 HB
   intro BK594 BK597 BK599 HB
   have p630 : 0 ≤ (a3_0 : Int) := ud
   have q630 : a3_0 < (l0.length : Int) := ud
   obtain ⟨ad630, A630_1, c630_1, A630_2, c630_2, A630_3, c630_3, A630_4, c630_4, A630_5, c630_5, A630_6, c630_6, e630, hx630_0, hx630_1, hx630_2, hx630_3, hx630_4, hx630_5, hx630_6, hl630_1, hi630_1, hl630_2, hi630_2, hl630_3, hi630_3, hl630_4, hi630_4, hl630_5, hi630_5, hl630_6, hi630_6⟩ := at_T28 HR0.out a3_0 p630 q630
   have hw630_6 := hx630_6
   have hw630_5 := hx630_5
   have hw630_4 := hx630_4
   have hw630_3 := hx630_3
   have hw630_2 := hx630_2
   have hw630_1 := hx630_1
   have hw630_0 := hx630_0
   obtain rfl : ad595 = ad630 := (by injection e630)
   replace hx630_0 := bcel HB hx630_0
   replace hx630_1 := bcel HB hx630_1
   replace hx630_2 := bcel HB hx630_2
   replace hx630_3 := bcel HB hx630_3
   replace hx630_4 := bcel HB hx630_4
   replace hx630_5 := bcel HB hx630_5
   replace hx630_6 := bcel HB hx630_6
   have HR630_1 := am hi630_1
   have HC630_1 := am hl630_1
   clear hi630_1 hl630_1
   have HR630_2 := am hi630_2
   have HC630_2 := am hl630_2
   clear hi630_2 hl630_2
   have HR630_3 := am hi630_3
   have HC630_3 := am hl630_3
   clear hi630_3 hl630_3
   have HR630_4 := am hi630_4
   have HC630_4 := am hl630_4
   clear hi630_4 hl630_4
   have HR630_5 := am hi630_5
   have HC630_5 := am hl630_5
   clear hi630_5 hl630_5
   have HR630_6 := am hi630_6
   have HC630_6 := am hl630_6
   clear hi630_6 hl630_6
   replace p630 := eq_true p630
   replace q630 := eq_true q630
   have p631 : 0 ≤ (((rd_T72 ((rd_T28 l0 a3_0).f4) a3_1).f1) : Int) := ud
   have q631 : ((rd_T72 ((rd_T28 l0 a3_0).f4) a3_1).f1) < (((rd_T28 l0 a3_0).f3).length : Int) := ud
   obtain ⟨ad631, e631, hx631_0, hx631_1, hx631_2, hx631_3, hx631_4, hx631_5, hx631_6, hx631_7⟩ := at_T35 HR630_3.out ((rd_T72 ((rd_T28 l0 a3_0).f4) a3_1).f1) p631 q631
   have hw631_7 := hx631_7
   have hw631_6 := hx631_6
   have hw631_5 := hx631_5
   have hw631_4 := hx631_4
   have hw631_3 := hx631_3
   have hw631_2 := hx631_2
   have hw631_1 := hx631_1
   have hw631_0 := hx631_0
   cases e631
   replace hx631_0 := bcel HB hx631_0
   replace hx631_1 := bcel HB hx631_1
   replace hx631_2 := bcel HB hx631_2
   replace hx631_3 := bcel HB hx631_3
   replace hx631_4 := bcel HB hx631_4
   replace hx631_5 := bcel HB hx631_5
   replace hx631_6 := bcel HB hx631_6
   replace hx631_7 := bcel HB hx631_7
   replace p631 := eq_true p631
   replace q631 := eq_true q631
   have p635 : 0 ≤ (a3_0 : Int) := ud
   have q635 : a3_0 < (l1.length : Int) := ud
   obtain ⟨ad635, e635, hx635_0⟩ := Kd.at_int HR1.out a3_0 p635 q635
   have hw635_0 := hx635_0
   obtain rfl : ad623 = ad635 := (by injection e635)
   replace hx635_0 := bcel HB hx635_0
   replace p635 := eq_true p635
   replace q635 := eq_true q635
   refine sr 27 [] (hB4 BK594 (hB2 BK597 (hA (bcel HB hw630_0 :) (hA (bcel HB hw630_1 :) (hA (bcel HB hw630_2 :) (hA (bcel HB hw630_3 :) (hA (bcel HB hw630_4 :) (hA (bcel HB hw630_5 :) (hA (bcel HB hw630_6 :) (hA (bcel HB hw631_0 :) (hA (bcel HB hw631_1 :) (hA (bcel HB hw631_2 :) (hA (bcel HB hw631_3 :) (hA (bcel HB hw631_4 :) (hA (bcel HB hw631_5 :) (hA (bcel HB hw631_6 :) (hA (bcel HB hw631_7 :) (hZ (bcel HB hw635_0 :))))))))))))))))))) (fun hHeld => ?_); refine with_tabW table_Slot.tab9 table_Slot.bits9 (fun HT_ HW_ => ?_)
   generalize w86.drew = w87 at BK594 BK597 BK599 HB HR630_1 HR630_2 HR630_3 HR630_4 HR630_5 HR630_6 hx630_0 hx630_1 hx630_2 hx630_3 hx630_4 hx630_5 hx630_6 hx631_0 hx631_1 hx631_2 hx631_3 hx631_4 hx631_5 hx631_6 hx631_7 hx635_0 hHeld ⊢
   refine pv 0 75 (bA 27 1) HT_ ?_
   refine pv 1 76 (bA 27 3) HT_ ?_
   refine pv 2 77 (bA 27 7) HT_ ?_
   refine pv 7 82 (bA 27 135) HT_ ?_
   refine pv 13 88 (bA 27 8327) HT_ ?_
   refine pv 14 89 (bA 27 24711) HT_ ?_
   refine pv 15 90 (bA 27 57479) HT_ ?_
   refine pv 17 92 (bA 27 188551) HT_ ?_
   refine pv 18 93 (bA 27 450695) HT_ ?_
   refine pv 22 97 (bA 27 4644999) HT_ ?_
   refine tv 3 78 (bA 27 4645007) HT_ HW_ hHeld ?_ (hy := by rintro w' ⟨s0, s1, s2, s3, s4, s5, s6, s7, s8, s9, s10, s11, s12, s13, s14, s15, s16, s17, s18, s19, s20, s21⟩; go_simp; with_reducible rfl)
   refine pv 4 79 (bA 27 4645023) HT_ ?_
   refine pv 5 80 (bA 27 4645055) HT_ ?_
   refine tv 6 81 (bA 27 4645119) HT_ HW_ hHeld ?_ (hy := by rintro w' ⟨s0, s1, s2, s3, s4, s5, s6, s7, s8, s9, s10, s11, s12, s13, s14, s15, s16, s17, s18, s19, s20, s21⟩; go_simp; with_reducible rfl)
   refine tv 8 83 (bA 27 4645375) HT_ HW_ hHeld ?_ (hy := by rintro w' ⟨s0, s1, s2, s3, s4, s5, s6, s7, s8, s9, s10, s11, s12, s13, s14, s15, s16, s17, s18, s19, s20, s21⟩; go_simp; with_reducible rfl)
   refine pv 9 84 (bA 27 4645887) HT_ ?_
   refine pv 10 85 (bA 27 4646911) HT_ ?_
   refine tv 11 86 (bA 27 4648959) HT_ HW_ hHeld ?_ (hy := by rintro w' ⟨s0, s1, s2, s3, s4, s5, s6, s7, s8, s9, s10, s11, s12, s13, s14, s15, s16, s17, s18, s19, s20, s21⟩; go_simp; with_reducible rfl)
   refine pv 12 87 (bA 27 4653055) HT_ ?_
   refine tv 19 94 (bA 27 5177343) HT_ HW_ hHeld ?_ (hy := by rintro w' ⟨s0, s1, s2, s3, s4, s5, s6, s7, s8, s9, s10, s11, s12, s13, s14, s15, s16, s17, s18, s19, s20, s21⟩; go_simp; with_reducible rfl)
   refine pv 20 95 (bA 27 6225919) HT_ ?_
   refine tv 21 96 (bA 27 8323071) HT_ HW_ hHeld ?_ (hy := by rintro w' ⟨s0, s1, s2, s3, s4, s5, s6, s7, s8, s9, s10, s11, s12, s13, s14, s15, s16, s17, s18, s19, s20, s21⟩; go_simp; with_reducible rfl)
   refine tv 23 98 (bA 27 16711679) HT_ HW_ hHeld ?_ (hy := by rintro w' ⟨s0, s1, s2, s3, s4, s5, s6, s7, s8, s9, s10, s11, s12, s13, s14, s15, s16, s17, s18, s19, s20, s21⟩; go_simp; with_reducible rfl)
   refine pv 24 99 (bA 27 33488895) HT_ ?_
   refine one_ (i := 16) (N := some 91) (bA 27 33554431) rfl rfl (one_of HT_.out (by kernel_rfl)) (by decide) (fun K hK => ?_)
   refine goesM_ (caps_bytes t624 t625 t626 t627 t628 t629 _) Try.func80 (by kernel_rfl) rfl #[.agg #[.int .u64 t624, .int .u64 t625, .int .u64 t626, .int .i64 t627, .int .i64 t628, .bool t629], .bool (((rd_T35 ((rd_T28 l0 a3_0).f3) ((rd_T72 ((rd_T28 l0 a3_0).f4) a3_1).f1)).f4) == 1)] (by rfl) rfl rfl rfl (by first | rfl | (try simp only [List.map_toArray, List.map_cons, List.map_nil]); first | done | rfl | (simp only [List.length_drop, List.length_take]; rfl)) ?_
   with_reducible refine (table_bytes_caps.calls t624 t625 t626 t627 t628 t629 (((rd_T35 ((rd_T28 l0 a3_0).f3) ((rd_T72 ((rd_T28 l0 a3_0).f4) a3_1).f1)).f4) == 1) t632 _ A69.out).mono ?_
   rintro e w88 ⟨v633, rfl, ho0, hb⟩
   refine ⟨_, rfl, ?_⟩
   have n0_ := am (Kd.R_lower ho0 (below_size (uc HB.out)))
   have n1_ := bw BK594 hb
   have n2_ := bw BK597 hb
   have n3_ := bw BK599 hb
   have n4_ := bs HB hb
   revert n0_ n1_ n2_ n3_ n4_
   clear BK594 BK597 BK599 HB
   intro HO634 BK594 BK597 BK599 HB
   (try clear hb)
   (try clear hb2)
   (try clear hk)
   (try clear hi)
   (try clear ho0)
   refine hK.out _ _ ⟨cz BK594 0, cz BK594 1, cz BK594 2, cz BK594 3, cz BK597 0, cz BK597 1, (bcel HB hw630_0 :), (bcel HB hw630_1 :), (bcel HB hw630_2 :), (bcel HB hw630_3 :), (bcel HB hw630_4 :), (bcel HB hw630_5 :), (bcel HB hw630_6 :), (bcel HB hw631_0 :), (bcel HB hw631_1 :), (bcel HB hw631_2 :), (bcel HB hw631_3 :), (bcel HB hw631_4 :), (bcel HB hw631_5 :), (bcel HB hw631_6 :), (bcel HB hw631_7 :), (bcel HB hw635_0 :)⟩ (fun hHeld => ?_)
   clear hK K
   refine norm_ (a' := ?_) ?_ ?_
   rotate_left
   ·show Act.put _ (some 91) _ = _
    simp only [Act.put, List.setIfInBounds_toArray, List.set_cons_zero, List.set_cons_succ, i64_w, i32_w]
    rfl
   refine pv 25 8 (bA 27 67108863) HT_ ?_
   refine pv 26 9 (bA 27 134217727) HT_ ?_
   refine done_ (done_of HT_.out (by kernel_rfl)) ?_
   try go_wp2
   go_ret2
   exact ⟨_, by first | rfl | (simp [errW_none, errW_some] <;> rfl) | (simp [*, errW_none, errW_some] <;> rfl), ua HO634.out, uc HB.out⟩
 ·rw [if_neg c9] at H
  have c9b0 : decide (0 ≤ a3_2) = false := decide_eq_false c9
  clear c9
  obtain ⟨c89, H⟩ := ic H
  have c89b0 : decide (0 ≤ ((rd_T72 ((rd_T28 l0 a3_0).f4) a3_1).f1)) = true := decide_eq_true c89
  clear c89
  obtain ⟨c90, H⟩ := ic H
  have c90b0 : decide (((rd_T72 ((rd_T28 l0 a3_0).f4) a3_1).f1) < (((rd_T28 l0 a3_0).f3).length : Int)) = true := decide_eq_true c90
  clear c90
  replace H := Option.bind_eq_some_iff.mp H
  obtain ⟨t638, A910, H⟩ := H
  replace H : (if a3_0 < (l1.length : Int) then (some (t638, IntKind.u64.wrap ((rd l1 a3_0) + ((rd_T72 ((rd_T28 l0 a3_0).f4) a3_1).f0)))) else (none)) = some (r1, r2) := H
  have A91 := am A910
  clear A910
  obtain ⟨c92, H⟩ := ic H
  have c92b0 : decide (a3_0 < (l1.length : Int)) = true := decide_eq_true c92
  clear c92
  simp only [Option.some.injEq, Prod.mk.injEq] at H
  obtain ⟨rfl, rfl⟩ := H
  go_enter Try.func12, Try.ntmps12
  try go_wp2_with (first | ((with_reducible refine gate_dst (N := 7) rfl ?_); refine box_event ?hg (N := 7) ?hd (cs := #[.int .i64 a3_0, .int .i64 a3_1, .int .i64 a3_2, .int .i64 a3_3]) (t := 44) ?hr ?_; (case hd => rfl); (case hg => rfl); (case hr => first | (go_simp; done) | (go_simp; rfl)); intro gb594 hg w93 hbox hb; have n0_ := bs HB hb; have n1_ := am (hbox); have n2_ := nz HB hg; have n3_ := nz HB hg; revert n0_ n1_ n2_ n3_; clear HB; intro HB BK594 GW594 GE594; clear hb hbox hg))
  have n0_ := am (blk_drew BK594.out)
  have n1_ := am (below_drew1 HB.out)
  revert n0_ n1_
  clear BK594 HB
  intro BK594 HB
  have p595 : 0 ≤ (a3_0 : Int) := ud
  have q595 : a3_0 < (l0.length : Int) := ud
  obtain ⟨ad595, A595_1, c595_1, A595_2, c595_2, A595_3, c595_3, A595_4, c595_4, A595_5, c595_5, A595_6, c595_6, e595, hx595_0, hx595_1, hx595_2, hx595_3, hx595_4, hx595_5, hx595_6, hl595_1, hi595_1, hl595_2, hi595_2, hl595_3, hi595_3, hl595_4, hi595_4, hl595_5, hi595_5, hl595_6, hi595_6⟩ := at_T28 HR0.out a3_0 p595 q595
  have hw595_6 := hx595_6
  have hw595_5 := hx595_5
  have hw595_4 := hx595_4
  have hw595_3 := hx595_3
  have hw595_2 := hx595_2
  have hw595_1 := hx595_1
  have hw595_0 := hx595_0
  cases e595
  replace hx595_0 := bcel HB hx595_0
  replace hx595_1 := bcel HB hx595_1
  replace hx595_2 := bcel HB hx595_2
  replace hx595_3 := bcel HB hx595_3
  replace hx595_4 := bcel HB hx595_4
  replace hx595_5 := bcel HB hx595_5
  replace hx595_6 := bcel HB hx595_6
  have HR595_1 := am hi595_1
  have HC595_1 := am hl595_1
  clear hi595_1 hl595_1
  have HR595_2 := am hi595_2
  have HC595_2 := am hl595_2
  clear hi595_2 hl595_2
  have HR595_3 := am hi595_3
  have HC595_3 := am hl595_3
  clear hi595_3 hl595_3
  have HR595_4 := am hi595_4
  have HC595_4 := am hl595_4
  clear hi595_4 hl595_4
  have HR595_5 := am hi595_5
  have HC595_5 := am hl595_5
  clear hi595_5 hl595_5
  have HR595_6 := am hi595_6
  have HC595_6 := am hl595_6
  clear hi595_6 hl595_6
  replace p595 := eq_true p595
  replace q595 := eq_true q595
  have p596 : 0 ≤ (a3_1 : Int) := ud
  have q596 : a3_1 < (((rd_T28 l0 a3_0).f4).length : Int) := ud
  obtain ⟨ad596, e596, hx596_0, hx596_1⟩ := at_T72 HR595_4.out a3_1 p596 q596
  have hw596_1 := hx596_1
  have hw596_0 := hx596_0
  cases e596
  replace hx596_0 := bcel HB hx596_0
  replace hx596_1 := bcel HB hx596_1
  replace p596 := eq_true p596
  replace q596 := eq_true q596
  refine sr 12 [] (hB4 BK594 (hA (bcel HB hw595_0 :) (hA (bcel HB hw595_1 :) (hA (bcel HB hw595_2 :) (hA (bcel HB hw595_3 :) (hA (bcel HB hw595_4 :) (hA (bcel HB hw595_5 :) (hA (bcel HB hw595_6 :) (hA (bcel HB hw596_0 :) (hZ (bcel HB hw596_1 :))))))))))) (fun hHeld => ?_); refine with_tabW table_Slot.tab1 table_Slot.bits1 (fun HT_ HW_ => ?_)
  generalize w93.drew = w94 at BK594 HB HR595_1 HR595_2 HR595_3 HR595_4 HR595_5 HR595_6 hx595_0 hx595_1 hx595_2 hx595_3 hx595_4 hx595_5 hx595_6 hx596_0 hx596_1 hHeld ⊢
  refine pv 0 15 (bA 12 1) HT_ ?_
  refine pv 1 16 (bA 12 3) HT_ ?_
  refine pv 6 21 (bA 12 67) HT_ ?_
  refine tv 2 17 (bA 12 71) HT_ HW_ hHeld ?_ (hy := by rintro w' ⟨s0, s1, s2, s3, s4, s5, s6, s7, s8, s9, s10, s11, s12⟩; go_simp; with_reducible rfl)
  refine pv 3 18 (bA 12 79) HT_ ?_
  refine pv 4 19 (bA 12 95) HT_ ?_
  refine tv 5 20 (bA 12 127) HT_ HW_ hHeld ?_ (hy := by rintro w' ⟨s0, s1, s2, s3, s4, s5, s6, s7, s8, s9, s10, s11, s12⟩; go_simp; with_reducible rfl)
  refine tv 7 22 (bA 12 255) HT_ HW_ hHeld ?_ (hy := by rintro w' ⟨s0, s1, s2, s3, s4, s5, s6, s7, s8, s9, s10, s11, s12⟩; go_simp; with_reducible rfl)
  refine pv 8 23 (bA 12 511) HT_ ?_
  refine tv 9 24 (bA 12 1023) HT_ HW_ hHeld ?_ (hy := by rintro w' ⟨s0, s1, s2, s3, s4, s5, s6, s7, s8, s9, s10, s11, s12⟩; go_simp; with_reducible rfl)
  refine one_ (i := 10) (N := some 10) (bA 12 2047) rfl rfl (one_of HT_.out (by kernel_rfl)) (by decide) (fun K hK => ?_)
  refine box_step ?hg (N := 10) ?hd (cs := #[.int .u64 0, .int .i64 0]) (t := 72) ?hr ?_; (case hd => rfl); (case hg => rfl); (case hr => first | (go_simp; done) | (go_simp; rfl))
  intro gb597 hg w95 hbox hb
  have n0_ := bw BK594 hb
  have n1_ := bs HB hb
  have n2_ := am (hbox)
  have n3_ := nz HB hg
  have n4_ := nz HB hg
  have n5_ := nl BK594 hg
  have n6_ := nr BK594 hg
  revert n0_ n1_ n2_ n3_ n4_ n5_ n6_
  clear BK594 HB
  intro BK594 HB BK597 GW597 GE597 NB594_597 NB597_594
  clear hb hbox hg
  refine hK.out _ _ ⟨cz BK594 0, cz BK594 1, cz BK594 2, cz BK594 3, (bcel HB hw595_0 :), (bcel HB hw595_1 :), (bcel HB hw595_2 :), (bcel HB hw595_3 :), (bcel HB hw595_4 :), (bcel HB hw595_5 :), (bcel HB hw595_6 :), (bcel HB hw596_0 :), (bcel HB hw596_1 :)⟩ (fun hHeld => ?_)
  clear hK K
  refine norm_ (a' := ?_) ?_ ?_
  rotate_left
  ·show Act.put _ (some 10) _ = _
   simp only [Act.put, List.setIfInBounds_toArray, List.set_cons_zero, List.set_cons_succ, i64_w, i32_w]
   rfl
  refine one_ (i := 11) (N := none) (bA 12 4095) rfl rfl (one_of HT_.out (by kernel_rfl)) (by decide) (fun K hK => ?_)
  have hs96 : w95.cell? ⟨gb597, 0, none⟩ = some (.int .u64 0) := cz BK597 0
  have hfs96 := fz BK597 0
  have hns96_0 := NB594_597.out
  have hms96_0 := NB597_594.out
  have hs97 : w95.cell? ⟨gb597, 1, none⟩ = some (.int .i64 0) := cz BK597 1
  have hfs97 := fz BK597 1
  have hns97_0 := NB594_597.out
  have hms97_0 := NB597_594.out
  refine skip_ (w1 := ?_) (by rfl) rfl ?_ ?_
  rotate_left
  ·go_simp
   rfl
  refine hK.out _ _ ⟨((cnf2 (NB594_597.out)).trans (hHeld.1)), ((cnf2 (NB594_597.out)).trans (hHeld.2.1)), ((cnf2 (NB594_597.out)).trans (hHeld.2.2.1)), ((cnf2 (NB594_597.out)).trans (hHeld.2.2.2.1)), ((cfar2 hw595_0 GW597.out).trans (hHeld.2.2.2.2.1)), ((cfar2 hw595_1 GW597.out).trans (hHeld.2.2.2.2.2.1)), ((cfar2 hw595_2 GW597.out).trans (hHeld.2.2.2.2.2.2.1)), ((cfar2 hw595_3 GW597.out).trans (hHeld.2.2.2.2.2.2.2.1)), ((cfar2 hw595_4 GW597.out).trans (hHeld.2.2.2.2.2.2.2.2.1)), ((cfar2 hw595_5 GW597.out).trans (hHeld.2.2.2.2.2.2.2.2.2.1)), ((cfar2 hw595_6 GW597.out).trans (hHeld.2.2.2.2.2.2.2.2.2.2.1)), ((cfar2 hw596_0 GW597.out).trans (hHeld.2.2.2.2.2.2.2.2.2.2.2.1)), ((cfar2 hw596_1 GW597.out).trans (hHeld.2.2.2.2.2.2.2.2.2.2.2.2))⟩ (fun hHeld => ?_)
  clear hK K
  refine done_ (done_of HT_.out (by kernel_rfl)) ?_
  have hnb98 := NB594_597.out
  have hnc98 := NB597_594.out
  obtain ⟨hcz99_0, hcz99_1, hcz99_2, hcz99_3, hfz99_0, hfz99_1, hfz99_2, hfz99_3⟩ := cl4 BK594
  try go_wp2
  have n0_ : Aside0 (((w95.setCell ⟨gb597, 0, none⟩ (.int .u64 ((rd_T72 ((rd_T28 l0 a3_0).f4) a3_1).f0))).setCell ⟨gb597, 1, none⟩ (.int .i64 ((rd_T72 ((rd_T28 l0 a3_0).f4) a3_1).f1))).heap[gb594]? = some (.cells #[.int .i64 a3_0, .int .i64 a3_1, .int .i64 a3_2, .int .i64 a3_3] 44 (0, 0))) := ⟨by (iterate 2 ((with_reducible repeat (first | refine blk_drewN ?_ _ | refine blk_drew ?_ | refine blk_alloc ?_ _)); refine blk_far ?_ NB594_597.out _)); (with_reducible repeat (first | refine blk_drewN ?_ _ | refine blk_drew ?_ | refine blk_alloc ?_ _)); exact BK594.out⟩
  have n1_ : Aside0 (((w95.setCell ⟨gb597, 0, none⟩ (.int .u64 ((rd_T72 ((rd_T28 l0 a3_0).f4) a3_1).f0))).setCell ⟨gb597, 1, none⟩ (.int .i64 ((rd_T72 ((rd_T28 l0 a3_0).f4) a3_1).f1))).heap[gb597]? = some (.cells #[.int .u64 ((rd_T72 ((rd_T28 l0 a3_0).f4) a3_1).f0), .int .i64 ((rd_T72 ((rd_T28 l0 a3_0).f4) a3_1).f1)] 72 (0, 0))) := ⟨by (with_reducible repeat (first | refine blk_drewN ?_ _ | refine blk_drew ?_ | refine blk_alloc ?_ _)); refine blk_put (cs := #[.int .u64 ((rd_T72 ((rd_T28 l0 a3_0).f4) a3_1).f0), .int .i64 0]) ?_ 1 _ rfl; (with_reducible repeat (first | refine blk_drewN ?_ _ | refine blk_drew ?_ | refine blk_alloc ?_ _)); refine blk_put (cs := #[.int .u64 0, .int .i64 0]) ?_ 0 _ rfl; (with_reducible repeat (first | refine blk_drewN ?_ _ | refine blk_drew ?_ | refine blk_alloc ?_ _)); exact BK597.out⟩
  have n2_ : Aside0 (Below w.heap.size w ((w95.setCell ⟨gb597, 0, none⟩ (.int .u64 ((rd_T72 ((rd_T28 l0 a3_0).f4) a3_1).f0))).setCell ⟨gb597, 1, none⟩ (.int .i64 ((rd_T72 ((rd_T28 l0 a3_0).f4) a3_1).f1)))) := ⟨uc HB.out⟩
  (try clear BK594)
  (try clear BK597)
  (try clear HB)
  generalize ((w95.setCell ⟨gb597, 0, none⟩ (.int .u64 ((rd_T72 ((rd_T28 l0 a3_0).f4) a3_1).f0))).setCell ⟨gb597, 1, none⟩ (.int .i64 ((rd_T72 ((rd_T28 l0 a3_0).f4) a3_1).f1))) = w100 at n0_ n1_ n2_ ⊢
  revert n0_ n1_ n2_
  intro BK594 BK597 HB
  have n0_ := am (blk_drew BK594.out)
  have n1_ := am (blk_drew BK597.out)
  have n2_ := am (below_drew1 HB.out)
  revert n0_ n1_ n2_
  clear BK594 BK597 HB
  intro BK594 BK597 HB
  have p636 : 0 ≤ (a3_0 : Int) := ud
  have q636 : a3_0 < (l0.length : Int) := ud
  obtain ⟨ad636, A636_1, c636_1, A636_2, c636_2, A636_3, c636_3, A636_4, c636_4, A636_5, c636_5, A636_6, c636_6, e636, hx636_0, hx636_1, hx636_2, hx636_3, hx636_4, hx636_5, hx636_6, hl636_1, hi636_1, hl636_2, hi636_2, hl636_3, hi636_3, hl636_4, hi636_4, hl636_5, hi636_5, hl636_6, hi636_6⟩ := at_T28 HR0.out a3_0 p636 q636
  have hw636_6 := hx636_6
  have hw636_5 := hx636_5
  have hw636_4 := hx636_4
  have hw636_3 := hx636_3
  have hw636_2 := hx636_2
  have hw636_1 := hx636_1
  have hw636_0 := hx636_0
  obtain rfl : ad595 = ad636 := (by injection e636)
  replace hx636_0 := bcel HB hx636_0
  replace hx636_1 := bcel HB hx636_1
  replace hx636_2 := bcel HB hx636_2
  replace hx636_3 := bcel HB hx636_3
  replace hx636_4 := bcel HB hx636_4
  replace hx636_5 := bcel HB hx636_5
  replace hx636_6 := bcel HB hx636_6
  have HR636_1 := am hi636_1
  have HC636_1 := am hl636_1
  clear hi636_1 hl636_1
  have HR636_2 := am hi636_2
  have HC636_2 := am hl636_2
  clear hi636_2 hl636_2
  have HR636_3 := am hi636_3
  have HC636_3 := am hl636_3
  clear hi636_3 hl636_3
  have HR636_4 := am hi636_4
  have HC636_4 := am hl636_4
  clear hi636_4 hl636_4
  have HR636_5 := am hi636_5
  have HC636_5 := am hl636_5
  clear hi636_5 hl636_5
  have HR636_6 := am hi636_6
  have HC636_6 := am hl636_6
  clear hi636_6 hl636_6
  replace p636 := eq_true p636
  replace q636 := eq_true q636
  have p637 : 0 ≤ (((rd_T72 ((rd_T28 l0 a3_0).f4) a3_1).f1) : Int) := ud
  have q637 : ((rd_T72 ((rd_T28 l0 a3_0).f4) a3_1).f1) < (((rd_T28 l0 a3_0).f3).length : Int) := ud
  obtain ⟨ad637, e637, hx637_0, hx637_1, hx637_2, hx637_3, hx637_4, hx637_5, hx637_6, hx637_7⟩ := at_T35 HR636_3.out ((rd_T72 ((rd_T28 l0 a3_0).f4) a3_1).f1) p637 q637
  have hw637_7 := hx637_7
  have hw637_6 := hx637_6
  have hw637_5 := hx637_5
  have hw637_4 := hx637_4
  have hw637_3 := hx637_3
  have hw637_2 := hx637_2
  have hw637_1 := hx637_1
  have hw637_0 := hx637_0
  cases e637
  replace hx637_0 := bcel HB hx637_0
  replace hx637_1 := bcel HB hx637_1
  replace hx637_2 := bcel HB hx637_2
  replace hx637_3 := bcel HB hx637_3
  replace hx637_4 := bcel HB hx637_4
  replace hx637_5 := bcel HB hx637_5
  replace hx637_6 := bcel HB hx637_6
  replace hx637_7 := bcel HB hx637_7
  replace p637 := eq_true p637
  replace q637 := eq_true q637
  have p641 : 0 ≤ (a3_0 : Int) := ud
  have q641 : a3_0 < (l1.length : Int) := ud
  obtain ⟨ad641, e641, hx641_0⟩ := Kd.at_int HR1.out a3_0 p641 q641
  have hw641_0 := hx641_0
  cases e641
  replace hx641_0 := bcel HB hx641_0
  replace p641 := eq_true p641
  replace q641 := eq_true q641
  refine sr 27 [] (hB4 BK594 (hB2 BK597 (hA (bcel HB hw636_0 :) (hA (bcel HB hw636_1 :) (hA (bcel HB hw636_2 :) (hA (bcel HB hw636_3 :) (hA (bcel HB hw636_4 :) (hA (bcel HB hw636_5 :) (hA (bcel HB hw636_6 :) (hA (bcel HB hw637_0 :) (hA (bcel HB hw637_1 :) (hA (bcel HB hw637_2 :) (hA (bcel HB hw637_3 :) (hA (bcel HB hw637_4 :) (hA (bcel HB hw637_5 :) (hA (bcel HB hw637_6 :) (hA (bcel HB hw637_7 :) (hZ (bcel HB hw641_0 :))))))))))))))))))) (fun hHeld => ?_); refine with_tabW table_Slot.tab9 table_Slot.bits9 (fun HT_ HW_ => ?_)
  generalize w100.drew = w101 at BK594 BK597 HB HR636_1 HR636_2 HR636_3 HR636_4 HR636_5 HR636_6 hx636_0 hx636_1 hx636_2 hx636_3 hx636_4 hx636_5 hx636_6 hx637_0 hx637_1 hx637_2 hx637_3 hx637_4 hx637_5 hx637_6 hx637_7 hx641_0 hHeld ⊢
  refine pv 0 75 (bA 27 1) HT_ ?_
  refine pv 1 76 (bA 27 3) HT_ ?_
  refine pv 2 77 (bA 27 7) HT_ ?_
  refine pv 7 82 (bA 27 135) HT_ ?_
  refine pv 13 88 (bA 27 8327) HT_ ?_
  refine pv 14 89 (bA 27 24711) HT_ ?_
  refine pv 15 90 (bA 27 57479) HT_ ?_
  refine pv 17 92 (bA 27 188551) HT_ ?_
  refine pv 18 93 (bA 27 450695) HT_ ?_
  refine pv 22 97 (bA 27 4644999) HT_ ?_
  refine tv 3 78 (bA 27 4645007) HT_ HW_ hHeld ?_ (hy := by rintro w' ⟨s0, s1, s2, s3, s4, s5, s6, s7, s8, s9, s10, s11, s12, s13, s14, s15, s16, s17, s18, s19, s20, s21⟩; go_simp; with_reducible rfl)
  refine pv 4 79 (bA 27 4645023) HT_ ?_
  refine pv 5 80 (bA 27 4645055) HT_ ?_
  refine tv 6 81 (bA 27 4645119) HT_ HW_ hHeld ?_ (hy := by rintro w' ⟨s0, s1, s2, s3, s4, s5, s6, s7, s8, s9, s10, s11, s12, s13, s14, s15, s16, s17, s18, s19, s20, s21⟩; go_simp; with_reducible rfl)
  refine tv 8 83 (bA 27 4645375) HT_ HW_ hHeld ?_ (hy := by rintro w' ⟨s0, s1, s2, s3, s4, s5, s6, s7, s8, s9, s10, s11, s12, s13, s14, s15, s16, s17, s18, s19, s20, s21⟩; go_simp; with_reducible rfl)
  refine pv 9 84 (bA 27 4645887) HT_ ?_
  refine pv 10 85 (bA 27 4646911) HT_ ?_
  refine tv 11 86 (bA 27 4648959) HT_ HW_ hHeld ?_ (hy := by rintro w' ⟨s0, s1, s2, s3, s4, s5, s6, s7, s8, s9, s10, s11, s12, s13, s14, s15, s16, s17, s18, s19, s20, s21⟩; go_simp; with_reducible rfl)
  refine pv 12 87 (bA 27 4653055) HT_ ?_
  refine tv 19 94 (bA 27 5177343) HT_ HW_ hHeld ?_ (hy := by rintro w' ⟨s0, s1, s2, s3, s4, s5, s6, s7, s8, s9, s10, s11, s12, s13, s14, s15, s16, s17, s18, s19, s20, s21⟩; go_simp; with_reducible rfl)
  refine pv 20 95 (bA 27 6225919) HT_ ?_
  refine tv 21 96 (bA 27 8323071) HT_ HW_ hHeld ?_ (hy := by rintro w' ⟨s0, s1, s2, s3, s4, s5, s6, s7, s8, s9, s10, s11, s12, s13, s14, s15, s16, s17, s18, s19, s20, s21⟩; go_simp; with_reducible rfl)
  refine tv 23 98 (bA 27 16711679) HT_ HW_ hHeld ?_ (hy := by rintro w' ⟨s0, s1, s2, s3, s4, s5, s6, s7, s8, s9, s10, s11, s12, s13, s14, s15, s16, s17, s18, s19, s20, s21⟩; go_simp; with_reducible rfl)
  refine pv 24 99 (bA 27 33488895) HT_ ?_
  refine one_ (i := 16) (N := some 91) (bA 27 33554431) rfl rfl (one_of HT_.out (by kernel_rfl)) (by decide) (fun K hK => ?_)
  refine goesM_ (caps_none  _) Try.func78 (by kernel_rfl) rfl #[.agg #[], .bool (((rd_T35 ((rd_T28 l0 a3_0).f3) ((rd_T72 ((rd_T28 l0 a3_0).f4) a3_1).f1)).f4) == 1)] (by rfl) rfl rfl rfl (by first | rfl | (try simp only [List.map_toArray, List.map_cons, List.map_nil]); first | done | rfl | (simp only [List.length_drop, List.length_take]; rfl)) ?_
  with_reducible refine (table_none_caps.calls 0 (((rd_T35 ((rd_T28 l0 a3_0).f3) ((rd_T72 ((rd_T28 l0 a3_0).f4) a3_1).f1)).f4) == 1) t638 _ A91.out).mono ?_
  rintro e w102 ⟨v639, rfl, ho0, hb⟩
  refine ⟨_, rfl, ?_⟩
  have n0_ := am (Kd.R_lower ho0 (below_size (uc HB.out)))
  have n1_ := bw BK594 hb
  have n2_ := bw BK597 hb
  have n3_ := bs HB hb
  revert n0_ n1_ n2_ n3_
  clear BK594 BK597 HB
  intro HO640 BK594 BK597 HB
  (try clear hb)
  (try clear hb2)
  (try clear hk)
  (try clear hi)
  (try clear ho0)
  refine hK.out _ _ ⟨cz BK594 0, cz BK594 1, cz BK594 2, cz BK594 3, cz BK597 0, cz BK597 1, (bcel HB hw636_0 :), (bcel HB hw636_1 :), (bcel HB hw636_2 :), (bcel HB hw636_3 :), (bcel HB hw636_4 :), (bcel HB hw636_5 :), (bcel HB hw636_6 :), (bcel HB hw637_0 :), (bcel HB hw637_1 :), (bcel HB hw637_2 :), (bcel HB hw637_3 :), (bcel HB hw637_4 :), (bcel HB hw637_5 :), (bcel HB hw637_6 :), (bcel HB hw637_7 :), (bcel HB hw641_0 :)⟩ (fun hHeld => ?_)
  clear hK K
  refine norm_ (a' := ?_) ?_ ?_
  rotate_left
  ·show Act.put _ (some 91) _ = _
   simp only [Act.put, List.setIfInBounds_toArray, List.set_cons_zero, List.set_cons_succ, i64_w, i32_w]
   rfl
  refine pv 25 8 (bA 27 67108863) HT_ ?_
  refine pv 26 9 (bA 27 134217727) HT_ ?_
  refine done_ (done_of HT_.out (by kernel_rfl)) ?_
  try go_wp2
  go_ret2
  exact ⟨_, by first | rfl | (simp [errW_none, errW_some] <;> rfl) | (simp [*, errW_none, errW_some] <;> rfl), ua HO640.out, uc HB.out⟩

end Go.Proofs.Ytlbfeklpncoccaa.P
