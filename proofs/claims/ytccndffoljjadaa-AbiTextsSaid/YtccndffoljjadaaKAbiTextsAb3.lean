/- Texts of one proof, one behind the other. No condition. -/
import Derived.Test.YtccndffoljjadaaKAbiTextsAb1
namespace Go.Proofs.Ytccndffoljjadaa.P
open Go.RowKit Go.Proofs.YtccndffoljjadaaW.PrintWords Go.Proofs.YtccndffoljjadaaW.PrintLast
set_option linter.unusedVariables false
set_option linter.unusedSimpArgs false
theorem infoS9 : (Try.prog.info? 9).map (fun i => (i.zero, i.size, i.bytes)) = some (some (.string ⟨#[]⟩), 1, 16) := by kernel_rfl
theorem run_append_make (w : World) (ty : TypeId) (n : Nat) (h0 : 0 < n) (h48 : n * 16 ≤ 281474976710656) :
    (Builtin.append_ #[23, 3] ty #[.slice none 0 0, .int .i64 n]).run Try.prog w =
      .ok (.slice (some ⟨w.heap.size, 0, none⟩) n (grownCap w n 0 9)) (w.drew.alloc (.cells (Builtin.zeroCells (Value.string ⟨#[]⟩).cells n ++ Builtin.zeroCells (Value.string ⟨#[]⟩).cells (grownCap w n 0 9 - n)) 9)) := by
  obtain ⟨i, hi, hz⟩ := Option.map_eq_some_iff.1 infoS9
  simp only [Prod.mk.injEq] at hz
  obtain ⟨hz0, hz1, hz2⟩ := hz
  have hw : IntKind.i64.wrap (n : Int) = n := by rw [i64_w]; unfold wrap64; omega
  have hn : ¬ (n ≤ 0) := by omega
  have hne : n ≠ 0 := by omega
  have hlt : ¬ ((n : Int) < 0) := by omega
  have h48' : ¬ ((n : Int) * 16 > 2 ^ 48) := by omega
  have hnx : Builtin.nextslicecap n 0 = n := by unfold Builtin.nextslicecap; rw [if_pos (by omega)]
  simp [Builtin.append_, run_underlying Try.underlying23, run_underlying Try.underlying3, sizeOf, typeInfo, zeroValue, hi, hz0, hz1, hz2, Question.forced, newRow, grownCap, asInt, asIntOf, hw, hne, hlt, hnx, Builtin.firstCells]
  rw [if_neg (by omega), if_neg (by omega), if_neg (by omega)]
/-- append's two operands, by its run. -/
theorem append_event {P : Program} {ops : Array Oper} {Q : Exit → Act → World → Prop} {rest : List Oper} {o : Oper} {a : Act} {W w1 : World} {v v1 v2 : Value} {ts : Array TypeId} (x y : Operand) (hgd : o.guard = none) (ho : o.op = .call { callee := .builtin .append, args := #[x, y], argTypes := ts }) (hx : a.eval x = v1) (hy : a.eval y = v2)
    (hrun : ∀ ty, (Builtin.append_ ts ty #[v1, v2]).run P W = .ok v w1) (h : wpList P ops Q rest (a.put o.dst v) w1) : wpList P ops Q (o :: rest) a W := by
  refine wpList_plain hgd fun K hK => ?_
  unfold Oper.wp execOp
  simp only [ho, resolve, invoke, builtin, Sem.run_bind, Sem.run_pure, Result.andThen_ok, List.map_toArray, List.map_cons, List.map_nil, hx, hy, hrun]
  exact hK _ _ h
set_option maxHeartbeats 1000000 in
set_option maxRecDepth 100000 in
theorem Grow_nil.calls (n : Nat) (w : World) (h48 : n * 16 ≤ 281474976710656) : Calls Try.prog 67 #[.slice none 0 0, .int .i64 n] w fun e w' => ∃ v, e = .returned v ∧ Kd.R Kd.string 9 w' w.heap.size (fun _ => True) v ([] : List ByteArray) ∧ Below w.heap.size w w' := by
  have c0 : decide ((n : Int) < 0) = false := decide_eq_false (by omega)
  have W : wrap64 ((n : Int) - wrap64 (0 - 0)) = n := by unfold wrap64; omega
  by_cases h0 : 0 < n
  · have c1 : decide (0 < (n : Int)) = true := decide_eq_true (by omega)
    have ha := fun ty => run_append_make w ty n h0 h48
    have hge := grownCap_ge w n 0 9
    have hmx := grownCap_le_maxLen w n 0 9 (by simp only [maxLen]; omega)
    obtain ⟨cs, hcs⟩ : ∃ cs, cs = Builtin.zeroCells (Value.string ⟨#[]⟩).cells n ++ Builtin.zeroCells (Value.string ⟨#[]⟩).cells (grownCap w n 0 9 - n) := ⟨_, rfl⟩
    rw [← hcs] at ha
    have hsz : cs.size = grownCap w n 0 9 := by rw [hcs]; simp [size_zeroCells, Value.cells]; omega
    have HS := Aside0.mk hsz
    clear hcs hsz
    generalize grownCap w n 0 9 = cap at ha hge hmx HS
    have hc0 : ¬ (cap = 0) := by omega
    go_enter Try.func67, Try.ntmps67
    go_wp2_with (first | ((with_reducible refine gate_builtin (b := .append) (xs := #[.tmp 20, .tmp 21]) rfl ?_); at_builtin; refine append_event (.tmp 20) (.tmp 21) rfl rfl rfl rfl ha ?_) | fail)
    go_ret
    refine ⟨_, rfl, ⟨fun _ _ => trivial, [], ⟨by simp, .inr ⟨w.heap.size, cap, cs, rfl, Nat.le_refl _, blk_drew (blk_new w _), Nat.zero_le _, hmx, by rw [HS.out]; exact (Nat.mul_one _).symm, by simp⟩⟩, Reps.none _ _⟩, below_drew1 (below_alloc (Below.refl _ _) _)⟩
  · obtain rfl : n = 0 := by omega
    go_enter Try.func67, Try.ntmps67
    go_wp2
    go_ret
    exact ⟨_, rfl, Kd.R_nil _ _ _ _ _, Below.refl _ _⟩
end Go.Proofs.Ytccndffoljjadaa.P

namespace Go.Proofs.Ytccndffoljjadaa.P
open Go.RowKit Go.Proofs.YtccndffoljjadaaW.PrintWords Go.Proofs.YtccndffoljjadaaW.PrintLast
set_option linter.unusedVariables false
set_option linter.unusedSimpArgs false
theorem cell_of_blk {w : World} {a : Nat} {cs : Array Value} {t : TypeId} (h : w.heap[a]? = some (.cells cs t (0, 0))) {i : Nat} {v : Value} (hv : cs[i]? = some v) : w.cell? ⟨a, i, none⟩ = some v := by
  have := blk_cell h i
  rw [hv] at this
  exact this
set_option maxHeartbeats 1000000 in
set_option maxRecDepth 100000 in
theorem Concat.calls (a : Nat) (A0 : Option Addr) (c0 : Nat) (l0 : List ByteArray) (A1 : Option Addr) (c1 : Nat) (l1 : List ByteArray) (w : World) (hb : w.heap[a]? = some (.cells #[.slice A0 l0.length c0, .slice A1 l1.length c1] 23 (0, 0))) (hr0 : Kd.C Kd.string w A0 l0.length l0) (hr1 : Kd.C Kd.string w A1 l1.length l1) (h0 : l0.length ≤ 1000) (h1 : l1.length ≤ 1000) :
    Calls Try.prog 35 #[.slice (some ⟨a, 0, none⟩) 2 2] w fun e w' => ∃ v, e = .returned v ∧ Kd.R Kd.string 9 w' w.heap.size (fun _ => True) v (l0 ++ l1) ∧ Below w.heap.size w w' := by
  have HB := Aside0.mk hb
  have HR0 := Aside0.mk hr0
  have HR1 := Aside0.mk hr1
  have G := Aside0.mk (fun W => Grow_nil.calls (l0.length + l1.length) W (by omega))
  clear hb hr0 hr1
  go_enter Try.func35, Try.ntmps35
  go_wp2
  go_loopw [3, 11] (fun v3 v11 wr => ∃ (j : Nat), v11 = .int .i64 j ∧ j ≤ 2 ∧ v3 = .int .i64 ((if j = 0 then 0 else if j = 1 then l0.length else l0.length + l1.length : Nat) : Int) ∧ w = wr) (fun _ v11 _ => 2 - (intOf v11).toNat)
  case atStart => exact ⟨0, rfl, by omega, rfl, rfl⟩
  case round =>
    obtain ⟨j, rfl, hj, rfl, rfl⟩ := hrel
    by_cases hlt : j < 2
    · obtain rfl | rfl : j = 0 ∨ j = 1 := by omega
      · have hx := cell_of_blk (i := 0) HB.out rfl
        have W1 : wrap64 ((l0.length : Nat) : Int) = l0.length := by unfold wrap64; omega
        have d1 : decide (((l0.length : Nat) : Int) < 0) = false := decide_eq_false (by omega)
        go_wp2
        exact ⟨⟨1, by simp, by omega, by simp⟩, by simp [intOf]⟩
      · have hx := cell_of_blk (i := 1) HB.out rfl
        have W1 : wrap64 ((l0.length : Int) + (l1.length : Int)) = ((l0.length + l1.length : Nat) : Int) := by unfold wrap64; omega
        have d1 : decide (((l0.length + l1.length : Nat) : Int) < 0) = false := decide_eq_false (by omega)
        go_wp2
        exact ⟨⟨2, by simp, by omega, by simp⟩, by simp [intOf]⟩
    · obtain rfl : j = 2 := by omega
      go_wp2_with (first | (go_at_call 67; refine (G.out _).mono ?_; rintro e w1 ⟨v, rfl, ho, hb⟩; have HO := Aside0.mk ho; have HB1 := Aside0.mk hb; clear ho hb) | fail)
      go_loopw [6, 27] (fun v6 v27 wr => ∃ (j : Nat), v27 = .int .i64 j ∧ j ≤ 2 ∧ Aside0 (Kd.R Kd.string 9 wr w.heap.size (fun _ => True) v6 (if j = 0 then [] else if j = 1 then l0 else l0 ++ l1)) ∧ Aside0 (Below w.heap.size w wr)) (fun _ v27 _ => 2 - (intOf v27).toNat)
      case atStart => exact ⟨0, rfl, by omega, HO, HB1⟩
      case round =>
        clear HO HB1
        obtain ⟨j, rfl, hj, HO2, HB2⟩ := hrel
        by_cases hlt : j < 2
        · obtain rfl | rfl : j = 0 ∨ j = 1 := by omega
          · have HR := Aside0.mk (Kd.C_below HR0.out HB2.out)
            have hx := cell_of_blk (i := 0) ((HB2.out.block _ (blk_lt HB.out)).trans HB.out) rfl
            have LM := Aside0.mk (show (([] : List ByteArray).length + l0.length) * 16 ≤ 140737488355328 by simp; omega)
            go_wp2_with (first | ((with_reducible refine gate_builtin (b := .append) (xs := #[.tmp 31, .tmp 32]) rfl ?_); at_builtin; refine Kd.R_append_rows Kd.string (Rr := Kd.string.K wr) (w0 := w) w.heap.size rfl (.tmp 31) (.tmp 32) 23 9 (.string ⟨#[]⟩) 16 rfl Try.underlying23 infoS9 rfl (by decide) (by omega) u6 [] l0 A0 l0.length c0 (fun _ => True) (fun _ => False) rfl rfl HO2.out HR.out (fun _ _ h => h) (fun _ hk => hk.elim) (fun _ _ => trivial) HB2.out (below_size HB2.out) LM.out ?_; intro v3 w3 ho hb hg hat; have HO3 := Aside0.mk ho; have HB3 := Aside0.mk hb; clear ho hb hg hat) | fail)
            exact ⟨⟨1, by simp, by omega, HO3, HB3⟩, by simp [intOf]⟩
          · have HR := Aside0.mk (Kd.C_below HR1.out HB2.out)
            have hx := cell_of_blk (i := 1) ((HB2.out.block _ (blk_lt HB.out)).trans HB.out) rfl
            have LM := Aside0.mk (show (l0.length + l1.length) * 16 ≤ 140737488355328 by omega)
            go_wp2_with (first | ((with_reducible refine gate_builtin (b := .append) (xs := #[.tmp 31, .tmp 32]) rfl ?_); at_builtin; refine Kd.R_append_rows Kd.string (Rr := Kd.string.K wr) (w0 := w) w.heap.size rfl (.tmp 31) (.tmp 32) 23 9 (.string ⟨#[]⟩) 16 rfl Try.underlying23 infoS9 rfl (by decide) (by omega) u6 l0 l1 A1 l1.length c1 (fun _ => True) (fun _ => False) rfl rfl HO2.out HR.out (fun _ _ h => h) (fun _ hk => hk.elim) (fun _ _ => trivial) HB2.out (below_size HB2.out) LM.out ?_; intro v3 w3 ho hb hg hat; have HO3 := Aside0.mk ho; have HB3 := Aside0.mk hb; clear ho hb hg hat) | fail)
            exact ⟨⟨2, by simp, by omega, HO3, HB3⟩, by simp [intOf]⟩
        · obtain rfl : j = 2 := by omega
          go_wp2
          go_ret
          exact ⟨_, rfl, HO2.out, HB2.out⟩
end Go.Proofs.Ytccndffoljjadaa.P
