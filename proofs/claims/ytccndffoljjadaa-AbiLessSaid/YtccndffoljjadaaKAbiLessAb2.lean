/- Words of the walks: lemmas about memory, cut down to what this proof uses. No condition. -/
import Derived.Test.YtccndffoljjadaaKAbiLessAb1
namespace Go.Proofs.Ytccndffoljjadaa.P
open Go.RowKit Go.Proofs.YtccndffoljjadaaW.PrintWords Go.Proofs.YtccndffoljjadaaW.PrintLast
set_option linter.unusedVariables false
set_option linter.unusedSimpArgs false
theorem infoS9 : (Try.prog.info? 9).map (fun i => (i.zero, i.size, i.bytes)) = some (some (.string ⟨#[]⟩), 1, 16) := by kernel_rfl
theorem run_append_make (w : World) (ty : TypeId) (n : Nat) (h0 : 0 < n) (h48 : n * 16 ≤ 281474976710656) :
    (Builtin.append_ #[23, 3] ty #[.slice none 0 0, .int .i64 n]).run Try.prog w =
      .ok (.slice (some ⟨w.heap.size, 0, none⟩) n (grownCap w n 0 9)) (w.drew.alloc (.cells (Builtin.zeroCells (Value.string ⟨#[]⟩).cells n ++ Builtin.zeroCells (Value.string ⟨#[]⟩).cells (grownCap w n 0 9 - n)) 9)) := by
  obtain ⟨i, hi, hz⟩ := Option.map_eq_some_iff.1 infoS9
  simp only [Prod.mk.injEq] at hz
  obtain ⟨hz0, hz1, hz2⟩ := hz
  have hw : IntKind.i64.wrap (n : Int) = n := by rw [i64_w]; unfold wrap64; omega
  have hn : ¬ (n ≤ 0) := by omega
  have hne : n ≠ 0 := by omega
  have hlt : ¬ ((n : Int) < 0) := by omega
  have h48' : ¬ ((n : Int) * 16 > 2 ^ 48) := by omega
  have hnx : Builtin.nextslicecap n 0 = n := by unfold Builtin.nextslicecap; rw [if_pos (by omega)]
  simp [Builtin.append_, run_underlying Try.underlying23, run_underlying Try.underlying3, sizeOf, typeInfo, zeroValue, hi, hz0, hz1, hz2, Question.forced, newRow, grownCap, asInt, asIntOf, hw, hne, hlt, hnx, Builtin.firstCells]
  rw [if_neg (by omega), if_neg (by omega), if_neg (by omega)]
/-- append's two operands, by its run. -/
theorem append_event {P : Program} {ops : Array Oper} {Q : Exit → Act → World → Prop} {rest : List Oper} {o : Oper} {a : Act} {W w1 : World} {v v1 v2 : Value} {ts : Array TypeId} (x y : Operand) (hgd : o.guard = none) (ho : o.op = .call { callee := .builtin .append, args := #[x, y], argTypes := ts }) (hx : a.eval x = v1) (hy : a.eval y = v2)
    (hrun : ∀ ty, (Builtin.append_ ts ty #[v1, v2]).run P W = .ok v w1) (h : wpList P ops Q rest (a.put o.dst v) w1) : wpList P ops Q (o :: rest) a W := by
  refine wpList_plain hgd fun K hK => ?_
  unfold Oper.wp execOp
  simp only [ho, resolve, invoke, builtin, Sem.run_bind, Sem.run_pure, Result.andThen_ok, List.map_toArray, List.map_cons, List.map_nil, hx, hy, hrun]
  exact hK _ _ h
set_option maxHeartbeats 1000000 in
set_option maxRecDepth 100000 in
theorem Grow_nil.calls (n : Nat) (w : World) (h48 : n * 16 ≤ 281474976710656) : Calls Try.prog 67 #[.slice none 0 0, .int .i64 n] w fun e w' => ∃ v, e = .returned v ∧ Kd.R Kd.string 9 w' w.heap.size (fun _ => True) v ([] : List ByteArray) ∧ Below w.heap.size w w' := by
  have c0 : decide ((n : Int) < 0) = false := decide_eq_false (by omega)
  have W : wrap64 ((n : Int) - wrap64 (0 - 0)) = n := by unfold wrap64; omega
  by_cases h0 : 0 < n
  · have c1 : decide (0 < (n : Int)) = true := decide_eq_true (by omega)
    have ha := fun ty => run_append_make w ty n h0 h48
    have hge := grownCap_ge w n 0 9
    have hmx := grownCap_le_maxLen w n 0 9 (by simp only [maxLen]; omega)
    obtain ⟨cs, hcs⟩ : ∃ cs, cs = Builtin.zeroCells (Value.string ⟨#[]⟩).cells n ++ Builtin.zeroCells (Value.string ⟨#[]⟩).cells (grownCap w n 0 9 - n) := ⟨_, rfl⟩
    rw [← hcs] at ha
    have hsz : cs.size = grownCap w n 0 9 := by rw [hcs]; simp [size_zeroCells, Value.cells]; omega
    have HS := Aside0.mk hsz
    clear hcs hsz
    generalize grownCap w n 0 9 = cap at ha hge hmx HS
    have hc0 : ¬ (cap = 0) := by omega
    go_enter Try.func67, Try.ntmps67
    go_wp2_with (first | ((with_reducible refine gate_builtin (b := .append) (xs := #[.tmp 20, .tmp 21]) rfl ?_); at_builtin; refine append_event (.tmp 20) (.tmp 21) rfl rfl rfl rfl ha ?_) | fail)
    go_ret
    refine ⟨_, rfl, ⟨fun _ _ => trivial, [], ⟨by simp, .inr ⟨w.heap.size, cap, cs, rfl, Nat.le_refl _, blk_drew (blk_new w _), Nat.zero_le _, hmx, by rw [HS.out]; exact (Nat.mul_one _).symm, by simp⟩⟩, Reps.none _ _⟩, below_drew1 (below_alloc (Below.refl _ _) _)⟩
  · obtain rfl : n = 0 := by omega
    go_enter Try.func67, Try.ntmps67
    go_wp2
    go_ret
    exact ⟨_, rfl, Kd.R_nil _ _ _ _ _, Below.refl _ _⟩
end Go.Proofs.Ytccndffoljjadaa.P
