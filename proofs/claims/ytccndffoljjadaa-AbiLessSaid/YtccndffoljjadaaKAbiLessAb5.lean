/- Words of the walks: lemmas about memory, cut down to what this proof uses. No condition. -/
import Derived.Test.YtccndffoljjadaaKAbiLessAb4
import Derived.Lib.SliceRun
namespace Go.Proofs.Ytccndffoljjadaa.P
open Go.RowKit Go.Proofs.YtccndffoljjadaaW.PrintWords Go.Proofs.YtccndffoljjadaaW.PrintLast
set_option linter.unusedVariables false
set_option linter.unusedSimpArgs false
set_option maxHeartbeats 1000000 in
set_option maxRecDepth 100000 in
theorem Clone_C.calls (A0 : Option Addr) (c0 : Nat) (l0 : List S30) (w : World) (hr0 : Kd.C k30 w A0 l0.length l0) (h0 : l0.length ≤ 1000) :
    Calls Try.prog 60 #[.slice A0 l0.length c0] w fun e w' => ∃ v, e = .returned v ∧ Kd.R k30 30 w' w.heap.size (fun _ => True) v l0 ∧ Below w.heap.size w w' := by
  have q40 : ∀ (w : World) (a : Option Addr) (n c n' c' : Nat), (binOp .eql 40 (.slice a n c) (.slice none n' c')).run Try.prog w = .ok (.bool a.isNone) w := fun w a n c n' c' => Go.Lib.run_eql_slice_nil w _ _ a n c n' c' Try.underlying40
  cases A0 with
  | none =>
    obtain rfl : l0 = [] := by
      rcases l0 with _ | ⟨x, r⟩
      · rfl
      · obtain ⟨ad, h, _⟩ := hr0.2.2 (by simp)
        cases h
    go_enter Try.func60, Try.ntmps60
    go_wp2
    go_ret
    exact ⟨_, rfl, Kd.R_nil _ _ _ _ _, Below.refl _ _⟩
  | some ad =>
    have HR := Aside0.mk (Kd.C_alloc hr0 (.cells #[] 30))
    have LM := Aside0.mk (show (([] : List S30).length + l0.length) * 48 ≤ 140737488355328 by simp; omega)
    have HO := Aside0.mk (show Kd.R k30 30 (w.alloc (.cells #[] 30)) w.heap.size (fun _ => True) (.slice (some ⟨w.heap.size, 0, none⟩) 0 0) [] from ⟨fun _ _ => trivial, [], ⟨by simp, .inr ⟨w.heap.size, 0, #[], rfl, Nat.le_refl _, blk_new w _, Nat.le_refl _, by simp, by simp, by simp⟩⟩, Reps.none _ _⟩)
    have HB := Aside0.mk (below_alloc (Below.refl w.heap.size w) (.cells #[] 30))
    clear hr0
    go_enter Try.func60, Try.ntmps60
    go_wp2_with (first | ((with_reducible refine gate_builtin (b := .append) (xs := #[.tmp 5, .tmp 6]) rfl ?_); at_builtin; go_loud (refine Kd.R_append_rows k30 (Rr := k30.K (w.alloc (.cells #[] 30))) (w0 := w) w.heap.size rfl (.tmp 5) (.tmp 6) 40 30 (.agg #[.int .u64 0, .int .u64 0, .int .u64 0, .int .i64 0, .int .i64 0, .bool false]) 48 rfl Try.underlying40 info30 rfl (by decide) (by omega) (.slice (some ⟨w.heap.size, 0, none⟩) 0 0) [] l0 (some ad) l0.length c0 (fun _ => True) (fun _ => False) rfl rfl HO.out HR.out (fun _ _ h => h) (fun _ hk => hk.elim) (fun _ _ => trivial) HB.out (below_size HB.out) LM.out ?_); intro v3 w3 ho hb hg hat; have HO3 := Aside0.mk ho; have HB3 := Aside0.mk hb; clear ho hb hg hat) | fail)
    go_ret
    exact ⟨_, rfl, HO3.out, HB3.out⟩
end Go.Proofs.Ytccndffoljjadaa.P
