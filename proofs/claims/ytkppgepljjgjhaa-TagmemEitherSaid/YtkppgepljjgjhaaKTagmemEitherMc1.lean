/- Texts of one proof, one behind the other. No condition. -/
import Derived.Test.YtkppgepljjgjhaaKTagmemEitherMem
import Derived.Test.YtkppgepljjgjhaaProg
import Derived.Tactics
import Derived.WalkKit
import Derived.ProofKit
import Derived.KernelRfl
import Derived.OwnWalk
import Derived.Laws.Build
import Derived.Laws.Slices
import Derived.Laws.Rows
namespace Go.Proofs.Ytkppgepljjgjhaa.P
open Go.RowKit Go.Proofs.YtkppgepljjgjhaaW.PrintWords Go.Proofs.YtkppgepljjgjhaaW.PrintLast
set_option linter.unusedVariables false
set_option linter.unusedSimpArgs false
theorem map_t : Try.prog.underlying 64 = some (.map 39 73) := by kernel_rfl
theorem zero_p (w : World) : (zeroValue 73).run Try.prog w = .ok (.pointer none) w := by kernel_rfl
theorem look_mem {w : World} {g gm : Nat} {L : List Lp} {clock : Nat} {m : Mm} (h : MemL w g gm L clock m) (n : Int) : (Instr.lookup 64 (.map (some gm)) (.int .u64 n) false).run Try.prog w = .ok (ptrOf (lookL n L)) w :=
  run_look map_t Try.underlying39 zero_p h.mp n
set_option maxHeartbeats 1000000 in
set_option maxRecDepth 100000 in
theorem place.calls {w : World} {g gm : Nat} {L : List Lp} {clock : Nat} {m : Mm} (h : MemL w g gm L clock m) (a : Int) (h0 : 0 ≤ a) (h1 : a ≤ 18446744073709551615) :
    Calls Try.prog 36 #[.pointer (some ⟨g, 0, none⟩), .int .u64 a] w fun e w' => e = .returned (.tuple #[ptrOf (lookL (a / 256) L), .int .i64 (a % 256)]) ∧ w' = w := by
  have hl := look_mem h
  have hc := blk_cell h.hd 0
  have hu := Try.underlying66
  go_enter Try.func36, Try.ntmps36
  go_wp2
  go_ret2
  exact ⟨rfl, rfl⟩
/-- What granule answers. -/
def granV (a : Int) (o : Option Lp) : Value := if a % 32 = 0 then match o with | some x => .tuple #[.pointer (some ⟨x.blk, 0, none⟩), .int .i64 (a % 256), .int .i64 0] | none => .tuple #[.pointer none, .int .i64 0, .int .i64 30] else .tuple #[.pointer none, .int .i64 0, .int .i64 31]
set_option maxHeartbeats 1000000 in
set_option maxRecDepth 100000 in
theorem granule.calls {w : World} {g gm : Nat} {L : List Lp} {clock : Nat} {m : Mm} (h : MemL w g gm L clock m) (a : Int) (h0 : 0 ≤ a) (h1 : a ≤ 18446744073709551615) :
    Calls Try.prog 31 #[.pointer (some ⟨g, 0, none⟩), .int .u64 a] w fun e w' => e = .returned (granV a (lookL (a / 256) L)) ∧ w' = w := by
  by_cases c : a % 32 = 0
  · cases hl : lookL (a / 256) L with
    | none =>
      have E : granV a none = .tuple #[.pointer none, .int .i64 0, .int .i64 30] := by unfold granV; rw [if_pos c]
      rw [E]
      have c1 : (a % 32 != 0) = false := by simp [c]
      have A0 := place.calls h a h0 h1
      rw [hl] at A0
      have A := Aside0.mk (show Calls Try.prog 36 #[.pointer (some ⟨g, 0, none⟩), .int .u64 a] w fun e w' => e = .returned (.tuple #[.pointer none, .int .i64 (a % 256)]) ∧ w' = w from A0)
      clear A0
      go_enter Try.func31, Try.ntmps31
      go_wp2_with (first | (go_at_call 36; refine A.out.mono ?_; rintro e w' ⟨rfl, rfl⟩) | fail)
      refine bodyPost_ret (results_tmp3 rfl _ _ _) rfl ?_
      exact ⟨rfl, rfl⟩
    | some x =>
      have E : granV a (some x) = .tuple #[.pointer (some ⟨x.blk, 0, none⟩), .int .i64 (a % 256), .int .i64 0] := by unfold granV; rw [if_pos c]
      rw [E]
      have c1 : (a % 32 != 0) = false := by simp [c]
      have A0 := place.calls h a h0 h1
      rw [hl] at A0
      have A := Aside0.mk (show Calls Try.prog 36 #[.pointer (some ⟨g, 0, none⟩), .int .u64 a] w fun e w' => e = .returned (.tuple #[.pointer (some ⟨x.blk, 0, none⟩), .int .i64 (a % 256)]) ∧ w' = w from A0)
      clear A0
      go_enter Try.func31, Try.ntmps31
      go_wp2_with (first | (go_at_call 36; refine A.out.mono ?_; rintro e w' ⟨rfl, rfl⟩) | fail)
      refine bodyPost_ret (results_tmp3 rfl _ _ _) rfl ?_
      exact ⟨rfl, rfl⟩
  · have E : granV a (lookL (a / 256) L) = .tuple #[.pointer none, .int .i64 0, .int .i64 31] := by unfold granV; rw [if_neg c]
    rw [E]
    have c1 : (a % 32 != 0) = true := by simp [c]
    go_enter Try.func31, Try.ntmps31
    go_wp2
    refine bodyPost_ret (results_tmp3 rfl _ _ _) rfl ?_
    exact ⟨rfl, rfl⟩
end Go.Proofs.Ytkppgepljjgjhaa.P

namespace Go.Proofs.Ytkppgepljjgjhaa.P
open Go.RowKit Go.Proofs.YtkppgepljjgjhaaW.PrintWords Go.Proofs.YtkppgepljjgjhaaW.PrintLast
set_option linter.unusedVariables false
set_option linter.unusedSimpArgs false
/-- What place answers. -/
theorem place_none {w : World} {g gm : Nat} {L : List Lp} {clock : Nat} {m : Mm} (h : MemL w g gm L clock m) {a : Int} (h0 : 0 ≤ a) (h1 : a ≤ 18446744073709551615) (hl : lookL (a / 256) L = none) :
    Calls Try.prog 36 #[.pointer (some ⟨g, 0, none⟩), .int .u64 a] w fun e w' => e = .returned (.tuple #[.pointer none, .int .i64 (a % 256)]) ∧ w' = w := by
  have A := place.calls h a h0 h1
  rw [hl] at A
  exact A
theorem place_some {w : World} {g gm : Nat} {L : List Lp} {clock : Nat} {m : Mm} (h : MemL w g gm L clock m) {a : Int} (h0 : 0 ≤ a) (h1 : a ≤ 18446744073709551615) {x : Lp} (hl : lookL (a / 256) L = some x) :
    Calls Try.prog 36 #[.pointer (some ⟨g, 0, none⟩), .int .u64 a] w fun e w' => e = .returned (.tuple #[.pointer (some ⟨x.blk, 0, none⟩), .int .i64 (a % 256)]) ∧ w' = w := by
  have A := place.calls h a h0 h1
  rw [hl] at A
  exact A
def size_ok (n : Int) : Prop := n = 1 ∨ n = 2 ∨ n = 4 ∨ n = 8
instance (n : Int) : Decidable (size_ok n) := by unfold size_ok; infer_instance
/-- What number answers. -/
def numV (a n : Int) (o : Option Lp) : Value := if size_ok n then (if a % n = 0 then match o with | some x => .tuple #[.pointer (some ⟨x.blk, 0, none⟩), .int .i64 (a % 256), .int .i64 0] | none => .tuple #[.pointer none, .int .i64 0, .int .i64 30] else .tuple #[.pointer none, .int .i64 0, .int .i64 31]) else .tuple #[.pointer none, .int .i64 0, .int .i64 1]
set_option maxHeartbeats 4000000 in
set_option maxRecDepth 100000 in
theorem number.calls {w : World} {g gm : Nat} {L : List Lp} {clock : Nat} {m : Mm} (h : MemL w g gm L clock m) (a n : Int) (h0 : 0 ≤ a) (h1 : a ≤ 18446744073709551615) :
    Calls Try.prog 34 #[.pointer (some ⟨g, 0, none⟩), .int .u64 a, .int .i64 n] w fun e w' => e = .returned (numV a n (lookL (a / 256) L)) ∧ w' = w := by
  by_cases hn : size_ok n
  · by_cases c : a % n = 0
    · cases hl : lookL (a / 256) L with
      | none =>
        have E : numV a n none = .tuple #[.pointer none, .int .i64 0, .int .i64 30] := by unfold numV; rw [if_pos hn, if_pos c]
        rw [E]
        have A := Aside0.mk (place_none h h0 h1 hl)
        clear E hl h
        rcases hn with rfl | rfl | rfl | rfl <;>
        · go_enter Try.func34, Try.ntmps34
          go_wp2_with (first | (go_at_call 36; refine A.out.mono ?_; rintro e w' ⟨rfl, rfl⟩) | fail)
          refine bodyPost_ret (results_tmp3 rfl _ _ _) rfl ?_
          exact ⟨rfl, rfl⟩
      | some x =>
        have E : numV a n (some x) = .tuple #[.pointer (some ⟨x.blk, 0, none⟩), .int .i64 (a % 256), .int .i64 0] := by unfold numV; rw [if_pos hn, if_pos c]
        rw [E]
        have A := Aside0.mk (place_some h h0 h1 hl)
        clear E hl h
        rcases hn with rfl | rfl | rfl | rfl <;>
        · go_enter Try.func34, Try.ntmps34
          go_wp2_with (first | (go_at_call 36; refine A.out.mono ?_; rintro e w' ⟨rfl, rfl⟩) | fail)
          refine bodyPost_ret (results_tmp3 rfl _ _ _) rfl ?_
          exact ⟨rfl, rfl⟩
    · have E : numV a n (lookL (a / 256) L) = .tuple #[.pointer none, .int .i64 0, .int .i64 31] := by unfold numV; rw [if_pos hn, if_neg c]
      rw [E]
      clear E h
      rcases hn with rfl | rfl | rfl | rfl <;>
      · first
        | (exact absurd (Int.emod_one a) c)
        | (go_enter Try.func34, Try.ntmps34
           go_wp2
           refine bodyPost_ret (results_tmp3 rfl _ _ _) rfl ?_
           exact ⟨rfl, rfl⟩)
  · have E : numV a n (lookL (a / 256) L) = .tuple #[.pointer none, .int .i64 0, .int .i64 1] := by unfold numV; rw [if_neg hn]
    rw [E]
    clear E h h0 h1
    have n1 : (n != 1) = true := by simp only [bne_iff_ne]; exact fun e => hn (.inl e)
    have n2 : (n != 2) = true := by simp only [bne_iff_ne]; exact fun e => hn (.inr (.inl e))
    have n4 : (n != 4) = true := by simp only [bne_iff_ne]; exact fun e => hn (.inr (.inr (.inl e)))
    have n8 : (n != 8) = true := by simp only [bne_iff_ne]; exact fun e => hn (.inr (.inr (.inr e)))
    clear hn
    go_enter Try.func34, Try.ntmps34
    go_wp2
    refine bodyPost_ret (results_tmp3 rfl _ _ _) rfl ?_
    exact ⟨rfl, rfl⟩
end Go.Proofs.Ytkppgepljjgjhaa.P
