/- Texts of one proof, one behind the other. No condition. -/
import Derived.Test.YtkppgepljjgjhaaKTagmemStoredRa0
namespace Go.Proofs.Ytkppgepljjgjhaa.P
open Go.RowKit Go.Proofs.YtkppgepljjgjhaaW.PrintWords Go.Proofs.YtkppgepljjgjhaaW.PrintLast Go.Proofs.YtkppgepljjgjhaaW.PrintMore
set_option linter.unusedVariables false
set_option linter.unusedSimpArgs false
theorem has_calls {w : World} (A : Option Addr) (c : Nat) (l : List Int) (n : Int) (hr : Kd.C (Kd.int .u64) w A l.length l) (hc : l.length ≤ c) (hl : l.length ≤ 1000000000) :
    Calls Try.prog 50 #[.slice A l.length c, .int .u64 n] w fun e w' => e = .returned (.bool (l.contains n)) ∧ Below w.heap.size w w' := by
  obtain ⟨k, hk⟩ := has_is n l (by omega)
  exact (curtilageref03_has.calls k A c l n _ w hr hc hk).mono (fun e w' h => ⟨h.1, h.2.below⟩)
theorem put_calls {w : World} (A : Option Addr) (c : Nat) (l : List Int) (n : Int) (hr : Kd.C (Kd.int .u64) w A l.length l) (hc : l.length ≤ c) (hl : l.length ≤ 1000000000) :
    Calls Try.prog 51 #[.slice A l.length c, .int .u64 n] w fun e w' => ∃ A' c', e = .returned (.slice A' (putF n l).length c') ∧ (putF n l).length ≤ c' ∧ Kd.F (Kd.int .u64) w' (fun k => w.heap.size ≤ k ∧ k < w'.heap.size) A' (putF n l).length (putF n l) ∧ Below w.heap.size w w' := by
  obtain ⟨k, hk⟩ := put_is n l hl
  refine (curtilageref03_put.calls k A c l n _ w hr hc hk).mono ?_
  rintro e w' ⟨v, rfl, hR, hb⟩
  obtain ⟨A', c', rfl, hle, hF⟩ := R_own_F hR
  exact ⟨A', c', rfl, hle, hF, hb⟩
theorem take_calls {w : World} (A : Option Addr) (c : Nat) (l : List Int) (n : Int) (hr : Kd.C (Kd.int .u64) w A l.length l) (hc : l.length ≤ c) (hl : l.length ≤ 1000000000) :
    Calls Try.prog 52 #[.slice A l.length c, .int .u64 n] w fun e w' => ∃ A' c', e = .returned (.slice A' (l.filter (fun x => decide (x ≠ n))).length c') ∧ (l.filter (fun x => decide (x ≠ n))).length ≤ c' ∧ Kd.F (Kd.int .u64) w' (fun k => w.heap.size ≤ k ∧ k < w'.heap.size) A' (l.filter (fun x => decide (x ≠ n))).length (l.filter (fun x => decide (x ≠ n))) ∧ Below w.heap.size w w' := by
  obtain ⟨k, hk⟩ := take_is n l hl
  refine (curtilageref03_take.calls k A c l n _ w hr hc hk).mono ?_
  rintro e w' ⟨v, rfl, hR, hb⟩
  obtain ⟨A', c', rfl, hle, hF⟩ := R_own_F hR
  exact ⟨A', c', rfl, hle, hF, hb⟩
/-- The state is small enough for all walks. -/
structure Rm.Ok (r : Rm) : Prop where
  m : r.mapped.length ≤ 1000000
  c : r.cells.length ≤ 1000000
  k : r.marks.length ≤ 1000000
def Rm.inB (r : Rm) (a : Int) : Bool := r.mapped.contains (a / 256)
def Rm.bad (r : Rm) (a n : Int) : Int := if n ≠ 1 ∧ n ≠ 2 ∧ n ≠ 4 ∧ n ≠ 8 then 1 else if a % n ≠ 0 then 31 else if r.inB a = false then 30 else 0
def Rm.spot (r : Rm) (a : Int) : Int := if a % 32 ≠ 0 then 31 else if r.inB a = false then 30 else 0
def Rm.all (r : Rm) (a n : Int) : Bool := decide (a + n ≤ 18446744073709551616) && (List.range n.toNat).all fun i : Nat => r.inB (a + i)
def Rm.byte (r : Rm) (a : Int) : Int := ((r.cells.find? fun c => decide (c.f0 = a)).map S89.f1).getD 0
def Rm.many (r : Rm) (a : Int) (n : Nat) : List Int := (List.range n).map fun i : Nat => r.byte (a + i)
section
variable {w : World} {g : Nat} {K : Nat → Prop} {r : Rm}
set_option maxHeartbeats 4000000 in
set_option maxRecDepth 100000 in
theorem In_calls (h : RefL w g K r) (ho : r.Ok) (a : Int) (h0 : 0 ≤ a) (h1 : a ≤ 18446744073709551615) :
    Calls Try.prog 71 #[.pointer (some ⟨g, 0, none⟩), .int .u64 a] w fun e w' => e = .returned (.bool (r.inB a)) ∧ Below w.heap.size w w' := by
  obtain ⟨A0, c0, A1, c1, A2, c2, ⟨z0, z1, z2, z3⟩, -, ⟨l0, l1, l2⟩, ⟨C0, C1, C2⟩⟩ := h.cells_
  have H := has_calls A0 c0 r.mapped (a / 256) C0 l0 (by have := ho.m; omega)
  unfold Rm.inB
  generalize r.mapped.contains (a / 256) = b at H ⊢
  replace H := Aside0.mk H
  go_enter Try.func71, Try.ntmps71
  go_wp2_with (first | (go_at_call 50; refine H.out.mono ?_; rintro e w1 ⟨rfl, hb⟩; have HB := Aside0.mk hb; clear hb) | fail)
  go_ret
  exact ⟨rfl, HB.out⟩
set_option maxHeartbeats 4000000 in
set_option maxRecDepth 100000 in
theorem bad_calls (h : RefL w g K r) (ho : r.Ok) (a n : Int) (h0 : 0 ≤ a) (h1 : a ≤ 18446744073709551615) :
    Calls Try.prog 53 #[.pointer (some ⟨g, 0, none⟩), .int .u64 a, .int .i64 n] w fun e w' => e = .returned (.int .i64 (r.bad a n)) ∧ Below w.heap.size w w' := by
  have HB0 := Aside0.mk (Below.refl w.heap.size w)
  have H := Aside0.mk (In_calls h ho a h0 h1)
  unfold Rm.bad
  have hf : ∀ {n : Int} {x : Int}, (n != x) = decide (n ≠ x) := fun {n x} => by by_cases c : n = x <;> simp [c]
  by_cases c : n ≠ 1 ∧ n ≠ 2 ∧ n ≠ 4 ∧ n ≠ 8
  · rw [if_pos c]
    obtain ⟨c1, c2, c3, c4⟩ := c
    have d1 : (n != 1) = true := by simpa using c1
    have d2 : (n != 2) = true := by simpa using c2
    have d3 : (n != 4) = true := by simpa using c3
    have d4 : (n != 8) = true := by simpa using c4
    go_enter Try.func53, Try.ntmps53
    go_wp2
    go_ret
    exact ⟨rfl, HB0.out⟩
  · rw [if_neg c]
    have hn : n = 1 ∨ n = 2 ∨ n = 4 ∨ n = 8 := by omega
    clear c
    by_cases c2 : a % n = 0
    · rw [if_neg (by simpa using c2)]
      generalize r.inB a = b at H ⊢
      cases b with
      | false =>
        simp only [if_true]
        rcases hn with rfl | rfl | rfl | rfl <;>
        · go_enter Try.func53, Try.ntmps53
          go_wp2_with (first | (go_at_call 71; refine H.out.mono ?_; rintro e w1 ⟨rfl, hb⟩; have HB := Aside0.mk hb; clear hb) | fail)
          go_ret
          exact ⟨rfl, HB.out⟩
      | true =>
        simp only [Bool.true_eq_false, if_false]
        rcases hn with rfl | rfl | rfl | rfl <;>
        · go_enter Try.func53, Try.ntmps53
          go_wp2_with (first | (go_at_call 71; refine H.out.mono ?_; rintro e w1 ⟨rfl, hb⟩; have HB := Aside0.mk hb; clear hb) | fail)
          go_ret
          exact ⟨rfl, HB.out⟩
    · rw [if_pos c2]
      clear H
      rcases hn with rfl | rfl | rfl | rfl
      · exact absurd (Int.emod_one a) c2
      all_goals
        go_enter Try.func53, Try.ntmps53
        go_wp2
        go_ret
        exact ⟨rfl, HB0.out⟩
set_option maxHeartbeats 4000000 in
set_option maxRecDepth 100000 in
theorem spot_calls (h : RefL w g K r) (ho : r.Ok) (a : Int) (h0 : 0 ≤ a) (h1 : a ≤ 18446744073709551615) :
    Calls Try.prog 56 #[.pointer (some ⟨g, 0, none⟩), .int .u64 a] w fun e w' => e = .returned (.int .i64 (r.spot a)) ∧ Below w.heap.size w w' := by
  have HB0 := Aside0.mk (Below.refl w.heap.size w)
  have H := Aside0.mk (In_calls h ho a h0 h1)
  unfold Rm.spot
  by_cases c2 : a % 32 = 0
  · rw [if_neg (by simpa using c2)]
    generalize r.inB a = b at H ⊢
    cases b with
    | false =>
      simp only [if_true]
      go_enter Try.func56, Try.ntmps56
      go_wp2_with (first | (go_at_call 71; refine H.out.mono ?_; rintro e w1 ⟨rfl, hb⟩; have HB := Aside0.mk hb; clear hb) | fail)
      go_ret
      exact ⟨rfl, HB.out⟩
    | true =>
      simp only [Bool.true_eq_false, if_false]
      go_enter Try.func56, Try.ntmps56
      go_wp2_with (first | (go_at_call 71; refine H.out.mono ?_; rintro e w1 ⟨rfl, hb⟩; have HB := Aside0.mk hb; clear hb) | fail)
      go_ret
      exact ⟨rfl, HB.out⟩
  · rw [if_pos c2]
    clear H
    go_enter Try.func56, Try.ntmps56
    go_wp2
    go_ret
    exact ⟨rfl, HB0.out⟩
end
end Go.Proofs.Ytkppgepljjgjhaa.P

namespace Go.Proofs.Ytkppgepljjgjhaa.P
open Go.RowKit Go.Proofs.YtkppgepljjgjhaaW.PrintWords Go.Proofs.YtkppgepljjgjhaaW.PrintLast Go.Proofs.YtkppgepljjgjhaaW.PrintMore
set_option linter.unusedVariables false
set_option linter.unusedSimpArgs false
theorem u64w {x : Int} (h0 : 0 ≤ x) (h1 : x ≤ 18446744073709551615) : IntKind.u64.wrap x = x := by rw [IntKind.wrap_u64]; omega
theorem i64w {x : Int} (h0 : -9223372036854775808 ≤ x) (h1 : x ≤ 9223372036854775807) : wrap64 x = x := by unfold wrap64; omega
theorem round_meas {n : Nat} {j : Nat} (h : j < n) : n - (intOf (.int .i64 ((j + 1 : Nat) : Int))).toNat < n - (intOf (.int .i64 (j : Int))).toNat := by simp only [intOf]; omega
theorem all_true {r : Rm} {a : Int} {n : Nat} (h1 : a + n ≤ 18446744073709551616) (h : ∀ i : Nat, i < n → r.inB (a + i) = true) : r.all a n = true := by
  unfold Rm.all
  rw [Bool.and_eq_true, decide_eq_true_eq, List.all_eq_true]
  exact ⟨h1, fun i hi => h i (by simpa using hi)⟩
theorem all_false {r : Rm} {a : Int} {n j : Nat} (hj : j < n) (h : r.inB (a + j) = false) : r.all a n = false := by
  unfold Rm.all
  rw [Bool.and_eq_false_iff]
  refine .inr (List.all_eq_false.2 ⟨j, by simpa using hj, by simpa using h⟩)
theorem all_far {r : Rm} {a : Int} {n : Nat} (h : ¬ a + n ≤ 18446744073709551616) : r.all a n = false := by
  unfold Rm.all
  rw [decide_eq_false h, Bool.false_and]
section
variable {w : World} {g : Nat} {K : Nat → Prop} {r : Rm}
set_option maxHeartbeats 4000000 in
set_option maxRecDepth 100000 in
theorem refall_calls (h : RefL w g K r) (ho : r.Ok) (a : Int) (n : Nat) (h0 : 0 ≤ a) (h1 : a ≤ 18446744073709551615) (hn : n ≤ 4611686018427387904) :
    Calls Try.prog 57 #[.pointer (some ⟨g, 0, none⟩), .int .u64 a, .int .i64 (n : Int)] w fun e w' => e = .returned (.bool (r.all a n)) ∧ Below w.heap.size w w' := by
  have HB0 := Aside0.mk (Below.refl w.heap.size w)
  have IN := Aside0.mk (fun W (hb : Below w.heap.size w W) (x : Int) h0 h1 => In_calls (h.below hb) ho x h0 h1)
  have V1 : IntKind.u64.wrap (n : Int) = n := u64w (by omega) (by omega)
  have V2 : IntKind.u64.wrap (18446744073709551615 - a) = 18446744073709551615 - a := u64w (by omega) (by omega)
  by_cases cf : ¬ a + n ≤ 18446744073709551616
  · rw [all_far cf]
    have ha : 0 < a := by omega
    have V3 : IntKind.u64.wrap (18446744073709551615 - a + 1) = 18446744073709551615 - a + 1 := u64w (by omega) (by omega)
    have d1 : decide (18446744073709551615 - a + 1 < (n : Int)) = true := decide_eq_true (by omega)
    have d2 : decide (0 < a) = true := decide_eq_true ha
    go_enter Try.func57, Try.ntmps57
    go_wp2
    go_ret
    exact ⟨rfl, HB0.out⟩
  have cf' : a + n ≤ 18446744073709551616 := Decidable.not_not.1 cf
  have hcond : ∃ x : Int, IntKind.u64.wrap (18446744073709551615 - a + 1) = x ∧ (decide (x < (n : Int)) = false ∨ a = 0) := by
    by_cases ca : a = 0
    · exact ⟨_, rfl, .inr ca⟩
    · exact ⟨_, u64w (by omega) (by omega), .inl (decide_eq_false (by omega))⟩
  obtain ⟨x, V3, hx⟩ := hcond
  clear cf
  rcases hx with d1 | ca
  case' inl =>
    go_enter Try.func57, Try.ntmps57
    go_wp2
  case' inr =>
    have d2 : decide (0 < a) = false := decide_eq_false (by omega)
    replace ca := Aside0.mk ca
    cases d1 : decide (x < (n : Int))
    all_goals
      go_enter Try.func57, Try.ntmps57
      go_wp2
  all_goals
    go_loopw [7] (fun v7 wr => ∃ (j : Nat), v7 = .int .i64 j ∧ j ≤ n ∧ Aside0 (∀ i : Nat, i < j → r.inB (a + i) = true) ∧ Aside0 (Below w.heap.size w wr)) (fun v7 _ => n - (intOf v7).toNat)
    case atStart => exact ⟨0, rfl, by omega, ⟨fun i hi => by omega⟩, HB0⟩
    case round =>
      obtain ⟨j, rfl, hj, HA, HB⟩ := hrel
      by_cases hlt : j < n
      · have W1 : IntKind.u64.wrap (j : Int) = j := u64w (by omega) (by omega)
        have W2 : IntKind.u64.wrap (a + (j : Int)) = a + j := u64w (by omega) (by omega)
        have W3 := next64 hlt hn
        have I := IN.out _ HB.out (a + j) (by omega) (by omega)
        obtain ⟨b, hb⟩ : ∃ b, b = r.inB (a + j) := ⟨_, rfl⟩
        rw [← hb] at I
        replace I := Aside0.mk I
        replace hb := Aside0.mk hb
        cases b with
        | false =>
          go_wp2_with (first | (go_at_call 71; refine I.out.mono ?_; rintro e w1 ⟨rfl, hd⟩; have HD := Aside0.mk hd; clear hd) | fail)
          go_ret
          exact ⟨by rw [all_false hlt hb.out.symm]; rfl, below_step HB.out HD.out⟩
        | true =>
          go_wp2_with (first | (go_at_call 71; refine I.out.mono ?_; rintro e w1 ⟨rfl, hd⟩; have HD := Aside0.mk hd; clear hd) | fail)
          refine ⟨⟨j + 1, by first | rfl | rw [W3], hlt, ⟨fun i hi => ?_⟩, ⟨below_step HB.out HD.out⟩⟩, by first | exact round_meas hlt | (rw [W3]; exact round_meas hlt)⟩
          rcases Nat.lt_succ_iff_lt_or_eq.1 hi with hi | rfl
          · exact HA.out i hi
          · exact hb.out.symm
      · obtain rfl : j = n := by omega
        go_wp2
        go_ret
        exact ⟨by rw [all_true cf' HA.out]; rfl, HB.out⟩
end
end Go.Proofs.Ytkppgepljjgjhaa.P
