/- Texts of one proof, one behind the other. No condition. -/
import Derived.Test.YtkppgepljjgjhaaKTagmemEitherRa0
namespace Go.Proofs.Ytkppgepljjgjhaa.P
open Go.RowKit Go.Proofs.YtkppgepljjgjhaaW.PrintWords Go.Proofs.YtkppgepljjgjhaaW.PrintLast Go.Proofs.YtkppgepljjgjhaaW.PrintMore
set_option linter.unusedVariables false
set_option linter.unusedSimpArgs false
theorem has_calls {w : World} (A : Option Addr) (c : Nat) (l : List Int) (n : Int) (hr : Kd.C (Kd.int .u64) w A l.length l) (hc : l.length ≤ c) (hl : l.length ≤ 1000000000) :
    Calls Try.prog 50 #[.slice A l.length c, .int .u64 n] w fun e w' => e = .returned (.bool (l.contains n)) ∧ Below w.heap.size w w' := by
  obtain ⟨k, hk⟩ := has_is n l (by omega)
  exact (curtilageref03_has.calls k A c l n _ w hr hc hk).mono (fun e w' h => ⟨h.1, h.2.below⟩)
theorem put_calls {w : World} (A : Option Addr) (c : Nat) (l : List Int) (n : Int) (hr : Kd.C (Kd.int .u64) w A l.length l) (hc : l.length ≤ c) (hl : l.length ≤ 1000000000) :
    Calls Try.prog 51 #[.slice A l.length c, .int .u64 n] w fun e w' => ∃ A' c', e = .returned (.slice A' (putF n l).length c') ∧ (putF n l).length ≤ c' ∧ Kd.F (Kd.int .u64) w' (fun k => w.heap.size ≤ k ∧ k < w'.heap.size) A' (putF n l).length (putF n l) ∧ Below w.heap.size w w' := by
  obtain ⟨k, hk⟩ := put_is n l hl
  refine (curtilageref03_put.calls k A c l n _ w hr hc hk).mono ?_
  rintro e w' ⟨v, rfl, hR, hb⟩
  obtain ⟨A', c', rfl, hle, hF⟩ := R_own_F hR
  exact ⟨A', c', rfl, hle, hF, hb⟩
theorem take_calls {w : World} (A : Option Addr) (c : Nat) (l : List Int) (n : Int) (hr : Kd.C (Kd.int .u64) w A l.length l) (hc : l.length ≤ c) (hl : l.length ≤ 1000000000) :
    Calls Try.prog 52 #[.slice A l.length c, .int .u64 n] w fun e w' => ∃ A' c', e = .returned (.slice A' (l.filter (fun x => decide (x ≠ n))).length c') ∧ (l.filter (fun x => decide (x ≠ n))).length ≤ c' ∧ Kd.F (Kd.int .u64) w' (fun k => w.heap.size ≤ k ∧ k < w'.heap.size) A' (l.filter (fun x => decide (x ≠ n))).length (l.filter (fun x => decide (x ≠ n))) ∧ Below w.heap.size w w' := by
  obtain ⟨k, hk⟩ := take_is n l hl
  refine (curtilageref03_take.calls k A c l n _ w hr hc hk).mono ?_
  rintro e w' ⟨v, rfl, hR, hb⟩
  obtain ⟨A', c', rfl, hle, hF⟩ := R_own_F hR
  exact ⟨A', c', rfl, hle, hF, hb⟩
/-- The state is small enough for all walks. -/
structure Rm.Ok (r : Rm) : Prop where
  m : r.mapped.length ≤ 1000000
  c : r.cells.length ≤ 1000000
  k : r.marks.length ≤ 1000000
def Rm.inB (r : Rm) (a : Int) : Bool := r.mapped.contains (a / 256)
def Rm.bad (r : Rm) (a n : Int) : Int := if n ≠ 1 ∧ n ≠ 2 ∧ n ≠ 4 ∧ n ≠ 8 then 1 else if a % n ≠ 0 then 31 else if r.inB a = false then 30 else 0
def Rm.spot (r : Rm) (a : Int) : Int := if a % 32 ≠ 0 then 31 else if r.inB a = false then 30 else 0
def Rm.all (r : Rm) (a n : Int) : Bool := decide (a + n ≤ 18446744073709551616) && (List.range n.toNat).all fun i : Nat => r.inB (a + i)
def Rm.byte (r : Rm) (a : Int) : Int := ((r.cells.find? fun c => decide (c.f0 = a)).map S89.f1).getD 0
def Rm.many (r : Rm) (a : Int) (n : Nat) : List Int := (List.range n).map fun i : Nat => r.byte (a + i)
section
variable {w : World} {g : Nat} {K : Nat → Prop} {r : Rm}
set_option maxHeartbeats 4000000 in
set_option maxRecDepth 100000 in
theorem In_calls (h : RefL w g K r) (ho : r.Ok) (a : Int) (h0 : 0 ≤ a) (h1 : a ≤ 18446744073709551615) :
    Calls Try.prog 71 #[.pointer (some ⟨g, 0, none⟩), .int .u64 a] w fun e w' => e = .returned (.bool (r.inB a)) ∧ Below w.heap.size w w' := by
  obtain ⟨A0, c0, A1, c1, A2, c2, ⟨z0, z1, z2, z3⟩, -, ⟨l0, l1, l2⟩, ⟨C0, C1, C2⟩⟩ := h.cells_
  have H := has_calls A0 c0 r.mapped (a / 256) C0 l0 (by have := ho.m; omega)
  unfold Rm.inB
  generalize r.mapped.contains (a / 256) = b at H ⊢
  replace H := Aside0.mk H
  go_enter Try.func71, Try.ntmps71
  go_wp2_with (first | (go_at_call 50; refine H.out.mono ?_; rintro e w1 ⟨rfl, hb⟩; have HB := Aside0.mk hb; clear hb) | fail)
  go_ret
  exact ⟨rfl, HB.out⟩
set_option maxHeartbeats 4000000 in
set_option maxRecDepth 100000 in
theorem bad_calls (h : RefL w g K r) (ho : r.Ok) (a n : Int) (h0 : 0 ≤ a) (h1 : a ≤ 18446744073709551615) :
    Calls Try.prog 53 #[.pointer (some ⟨g, 0, none⟩), .int .u64 a, .int .i64 n] w fun e w' => e = .returned (.int .i64 (r.bad a n)) ∧ Below w.heap.size w w' := by
  have HB0 := Aside0.mk (Below.refl w.heap.size w)
  have H := Aside0.mk (In_calls h ho a h0 h1)
  unfold Rm.bad
  have hf : ∀ {n : Int} {x : Int}, (n != x) = decide (n ≠ x) := fun {n x} => by by_cases c : n = x <;> simp [c]
  by_cases c : n ≠ 1 ∧ n ≠ 2 ∧ n ≠ 4 ∧ n ≠ 8
  · rw [if_pos c]
    obtain ⟨c1, c2, c3, c4⟩ := c
    have d1 : (n != 1) = true := by simpa using c1
    have d2 : (n != 2) = true := by simpa using c2
    have d3 : (n != 4) = true := by simpa using c3
    have d4 : (n != 8) = true := by simpa using c4
    go_enter Try.func53, Try.ntmps53
    go_wp2
    go_ret
    exact ⟨rfl, HB0.out⟩
  · rw [if_neg c]
    have hn : n = 1 ∨ n = 2 ∨ n = 4 ∨ n = 8 := by omega
    clear c
    by_cases c2 : a % n = 0
    · rw [if_neg (by simpa using c2)]
      generalize r.inB a = b at H ⊢
      cases b with
      | false =>
        simp only [if_true]
        rcases hn with rfl | rfl | rfl | rfl <;>
        · go_enter Try.func53, Try.ntmps53
          go_wp2_with (first | (go_at_call 71; refine H.out.mono ?_; rintro e w1 ⟨rfl, hb⟩; have HB := Aside0.mk hb; clear hb) | fail)
          go_ret
          exact ⟨rfl, HB.out⟩
      | true =>
        simp only [Bool.true_eq_false, if_false]
        rcases hn with rfl | rfl | rfl | rfl <;>
        · go_enter Try.func53, Try.ntmps53
          go_wp2_with (first | (go_at_call 71; refine H.out.mono ?_; rintro e w1 ⟨rfl, hb⟩; have HB := Aside0.mk hb; clear hb) | fail)
          go_ret
          exact ⟨rfl, HB.out⟩
    · rw [if_pos c2]
      clear H
      rcases hn with rfl | rfl | rfl | rfl
      · exact absurd (Int.emod_one a) c2
      all_goals
        go_enter Try.func53, Try.ntmps53
        go_wp2
        go_ret
        exact ⟨rfl, HB0.out⟩
set_option maxHeartbeats 4000000 in
set_option maxRecDepth 100000 in
theorem spot_calls (h : RefL w g K r) (ho : r.Ok) (a : Int) (h0 : 0 ≤ a) (h1 : a ≤ 18446744073709551615) :
    Calls Try.prog 56 #[.pointer (some ⟨g, 0, none⟩), .int .u64 a] w fun e w' => e = .returned (.int .i64 (r.spot a)) ∧ Below w.heap.size w w' := by
  have HB0 := Aside0.mk (Below.refl w.heap.size w)
  have H := Aside0.mk (In_calls h ho a h0 h1)
  unfold Rm.spot
  by_cases c2 : a % 32 = 0
  · rw [if_neg (by simpa using c2)]
    generalize r.inB a = b at H ⊢
    cases b with
    | false =>
      simp only [if_true]
      go_enter Try.func56, Try.ntmps56
      go_wp2_with (first | (go_at_call 71; refine H.out.mono ?_; rintro e w1 ⟨rfl, hb⟩; have HB := Aside0.mk hb; clear hb) | fail)
      go_ret
      exact ⟨rfl, HB.out⟩
    | true =>
      simp only [Bool.true_eq_false, if_false]
      go_enter Try.func56, Try.ntmps56
      go_wp2_with (first | (go_at_call 71; refine H.out.mono ?_; rintro e w1 ⟨rfl, hb⟩; have HB := Aside0.mk hb; clear hb) | fail)
      go_ret
      exact ⟨rfl, HB.out⟩
  · rw [if_pos c2]
    clear H
    go_enter Try.func56, Try.ntmps56
    go_wp2
    go_ret
    exact ⟨rfl, HB0.out⟩
end
end Go.Proofs.Ytkppgepljjgjhaa.P

namespace Go.Proofs.Ytkppgepljjgjhaa.P
open Go.RowKit Go.Proofs.YtkppgepljjgjhaaW.PrintWords Go.Proofs.YtkppgepljjgjhaaW.PrintLast Go.Proofs.YtkppgepljjgjhaaW.PrintMore
set_option linter.unusedVariables false
set_option linter.unusedSimpArgs false
theorem u64w {x : Int} (h0 : 0 ≤ x) (h1 : x ≤ 18446744073709551615) : IntKind.u64.wrap x = x := by rw [IntKind.wrap_u64]; omega
theorem i64w {x : Int} (h0 : -9223372036854775808 ≤ x) (h1 : x ≤ 9223372036854775807) : wrap64 x = x := by unfold wrap64; omega
theorem round_meas {n : Nat} {j : Nat} (h : j < n) : n - (intOf (.int .i64 ((j + 1 : Nat) : Int))).toNat < n - (intOf (.int .i64 (j : Int))).toNat := by simp only [intOf]; omega
theorem all_true {r : Rm} {a : Int} {n : Nat} (h1 : a + n ≤ 18446744073709551616) (h : ∀ i : Nat, i < n → r.inB (a + i) = true) : r.all a n = true := by
  unfold Rm.all
  rw [Bool.and_eq_true, decide_eq_true_eq, List.all_eq_true]
  exact ⟨h1, fun i hi => h i (by simpa using hi)⟩
theorem all_false {r : Rm} {a : Int} {n j : Nat} (hj : j < n) (h : r.inB (a + j) = false) : r.all a n = false := by
  unfold Rm.all
  rw [Bool.and_eq_false_iff]
  refine .inr (List.all_eq_false.2 ⟨j, by simpa using hj, by simpa using h⟩)
theorem all_far {r : Rm} {a : Int} {n : Nat} (h : ¬ a + n ≤ 18446744073709551616) : r.all a n = false := by
  unfold Rm.all
  rw [decide_eq_false h, Bool.false_and]
section
variable {w : World} {g : Nat} {K : Nat → Prop} {r : Rm}
set_option maxHeartbeats 4000000 in
set_option maxRecDepth 100000 in
theorem refall_calls (h : RefL w g K r) (ho : r.Ok) (a : Int) (n : Nat) (h0 : 0 ≤ a) (h1 : a ≤ 18446744073709551615) (hn : n ≤ 4611686018427387904) :
    Calls Try.prog 57 #[.pointer (some ⟨g, 0, none⟩), .int .u64 a, .int .i64 (n : Int)] w fun e w' => e = .returned (.bool (r.all a n)) ∧ Below w.heap.size w w' := by
  have HB0 := Aside0.mk (Below.refl w.heap.size w)
  have IN := Aside0.mk (fun W (hb : Below w.heap.size w W) (x : Int) h0 h1 => In_calls (h.below hb) ho x h0 h1)
  have V1 : IntKind.u64.wrap (n : Int) = n := u64w (by omega) (by omega)
  have V2 : IntKind.u64.wrap (18446744073709551615 - a) = 18446744073709551615 - a := u64w (by omega) (by omega)
  by_cases cf : ¬ a + n ≤ 18446744073709551616
  · rw [all_far cf]
    have ha : 0 < a := by omega
    have V3 : IntKind.u64.wrap (18446744073709551615 - a + 1) = 18446744073709551615 - a + 1 := u64w (by omega) (by omega)
    have d1 : decide (18446744073709551615 - a + 1 < (n : Int)) = true := decide_eq_true (by omega)
    have d2 : decide (0 < a) = true := decide_eq_true ha
    go_enter Try.func57, Try.ntmps57
    go_wp2
    go_ret
    exact ⟨rfl, HB0.out⟩
  have cf' : a + n ≤ 18446744073709551616 := Decidable.not_not.1 cf
  have hcond : ∃ x : Int, IntKind.u64.wrap (18446744073709551615 - a + 1) = x ∧ (decide (x < (n : Int)) = false ∨ a = 0) := by
    by_cases ca : a = 0
    · exact ⟨_, rfl, .inr ca⟩
    · exact ⟨_, u64w (by omega) (by omega), .inl (decide_eq_false (by omega))⟩
  obtain ⟨x, V3, hx⟩ := hcond
  clear cf
  rcases hx with d1 | ca
  case' inl =>
    go_enter Try.func57, Try.ntmps57
    go_wp2
  case' inr =>
    have d2 : decide (0 < a) = false := decide_eq_false (by omega)
    replace ca := Aside0.mk ca
    cases d1 : decide (x < (n : Int))
    all_goals
      go_enter Try.func57, Try.ntmps57
      go_wp2
  all_goals
    go_loopw [7] (fun v7 wr => ∃ (j : Nat), v7 = .int .i64 j ∧ j ≤ n ∧ Aside0 (∀ i : Nat, i < j → r.inB (a + i) = true) ∧ Aside0 (Below w.heap.size w wr)) (fun v7 _ => n - (intOf v7).toNat)
    case atStart => exact ⟨0, rfl, by omega, ⟨fun i hi => by omega⟩, HB0⟩
    case round =>
      obtain ⟨j, rfl, hj, HA, HB⟩ := hrel
      by_cases hlt : j < n
      · have W1 : IntKind.u64.wrap (j : Int) = j := u64w (by omega) (by omega)
        have W2 : IntKind.u64.wrap (a + (j : Int)) = a + j := u64w (by omega) (by omega)
        have W3 := next64 hlt hn
        have I := IN.out _ HB.out (a + j) (by omega) (by omega)
        obtain ⟨b, hb⟩ : ∃ b, b = r.inB (a + j) := ⟨_, rfl⟩
        rw [← hb] at I
        replace I := Aside0.mk I
        replace hb := Aside0.mk hb
        cases b with
        | false =>
          go_wp2_with (first | (go_at_call 71; refine I.out.mono ?_; rintro e w1 ⟨rfl, hd⟩; have HD := Aside0.mk hd; clear hd) | fail)
          go_ret
          exact ⟨by rw [all_false hlt hb.out.symm]; rfl, below_step HB.out HD.out⟩
        | true =>
          go_wp2_with (first | (go_at_call 71; refine I.out.mono ?_; rintro e w1 ⟨rfl, hd⟩; have HD := Aside0.mk hd; clear hd) | fail)
          refine ⟨⟨j + 1, by first | rfl | rw [W3], hlt, ⟨fun i hi => ?_⟩, ⟨below_step HB.out HD.out⟩⟩, by first | exact round_meas hlt | (rw [W3]; exact round_meas hlt)⟩
          rcases Nat.lt_succ_iff_lt_or_eq.1 hi with hi | rfl
          · exact HA.out i hi
          · exact hb.out.symm
      · obtain rfl : j = n := by omega
        go_wp2
        go_ret
        exact ⟨by rw [all_true cf' HA.out]; rfl, HB.out⟩
end
end Go.Proofs.Ytkppgepljjgjhaa.P

namespace Go.Proofs.Ytkppgepljjgjhaa.P
open Go.RowKit Go.Proofs.YtkppgepljjgjhaaW.PrintWords Go.Proofs.YtkppgepljjgjhaaW.PrintLast Go.Proofs.YtkppgepljjgjhaaW.PrintMore
set_option linter.unusedVariables false
set_option linter.unusedSimpArgs false
theorem info89 : (Try.prog.info? 89).map (fun i => (i.zero, i.size, i.bytes)) = some (some (.agg #[.int .u64 0, .int .u8 0]), 2, 16) := by kernel_rfl
theorem rdT89_get {l : List S89} {j : Nat} (h : j < l.length) : rd_T89 l (j : Int) = l[j] := by
  simp [rd_T89, List.getD_eq_getElem?_getD, List.getElem?_eq_getElem h]
theorem drop_T89 {l : List S89} {j : Nat} (h : j < l.length) : l.drop j = rd_T89 l (j : Int) :: l.drop (j + 1) := by
  rw [List.drop_eq_getElem_cons h, rdT89_get h]
/-- What a search from place j on gives. -/
def byteFrom (l : List S89) (a : Int) (j : Nat) : Int := (((l.drop j).find? fun c => decide (c.f0 = a)).map S89.f1).getD 0
theorem byteFrom_hit {l : List S89} {a : Int} {j : Nat} (h : j < l.length) (he : (rd_T89 l (j : Int)).f0 = a) : byteFrom l a j = (rd_T89 l (j : Int)).f1 := by
  unfold byteFrom
  rw [drop_T89 h, List.find?_cons_of_pos (by simpa using he)]
  rfl
theorem byteFrom_miss {l : List S89} {a : Int} {j : Nat} (h : j < l.length) (he : ¬ (rd_T89 l (j : Int)).f0 = a) : byteFrom l a j = byteFrom l a (j + 1) := by
  unfold byteFrom
  rw [drop_T89 h, List.find?_cons_of_neg (by simpa using he)]
theorem byteFrom_end {l : List S89} {a : Int} : byteFrom l a l.length = 0 := by
  unfold byteFrom
  rw [List.drop_length]
  rfl
section
variable {w : World} {g : Nat} {K : Nat → Prop} {r : Rm}
set_option maxHeartbeats 4000000 in
set_option maxRecDepth 100000 in
theorem Byte_calls (h : RefL w g K r) (ho : r.Ok) (a : Int) :
    Calls Try.prog 74 #[.pointer (some ⟨g, 0, none⟩), .int .u64 a] w fun e w' => e = .returned (.int .u8 (r.byte a)) ∧ Below w.heap.size w w' := by
  obtain ⟨A0, c0, A1, c1, A2, c2, ⟨z0, z1, z2, z3⟩, -, -, ⟨-, C1, -⟩⟩ := h.cells_
  have HC := Aside0.mk C1
  have hl := ho.c
  have HB0 := Aside0.mk (Below.refl w.heap.size w)
  have E0 : r.byte a = byteFrom r.cells a 0 := by unfold Rm.byte byteFrom; rw [List.drop_zero]
  rw [E0]
  clear E0 C1 z0 z2 z3 h ho
  obtain ⟨l, hle⟩ : ∃ l, l = r.cells := ⟨_, rfl⟩
  rw [← hle] at HC hl z1 ⊢
  clear hle
  go_enter Try.func74, Try.ntmps74
  go_wp2
  go_loopw [5] (fun v5 wr => ∃ (j : Nat), v5 = .int .i64 j ∧ j ≤ l.length ∧ Aside0 (byteFrom l a 0 = byteFrom l a j) ∧ wr = w) (fun v5 _ => l.length - (intOf v5).toNat)
  case atStart => exact ⟨0, rfl, by omega, ⟨rfl⟩, rfl⟩
  case round =>
    obtain ⟨j, rfl, hj, HE, rfl⟩ := hrel
    by_cases hlt : j < l.length
    · obtain ⟨ad, eA, hx0, hx1⟩ := at_T89 HC.out (j : Int) (by omega) (by omega)
      cases eA
      rw [Int.toNat_natCast] at hx0 hx1
      have W3 := next64 hlt (by omega)
      by_cases he : (rd_T89 l (j : Int)).f0 = a
      · have hb := Aside0.mk (byteFrom_hit hlt he)
        have d1 : ((rd_T89 l (j : Int)).f0 == a) = true := beq_iff_eq.2 he
        replace he := Aside0.mk he
        go_wp2
        go_ret
        exact ⟨by rw [HE.out, hb.out]; rfl, HB0.out⟩
      · have hb := Aside0.mk (byteFrom_miss hlt he)
        have d1 : ((rd_T89 l (j : Int)).f0 == a) = false := beq_eq_false_iff_ne.2 he
        go_wp2
        exact ⟨⟨j + 1, by first | rfl | rw [W3], hlt, ⟨HE.out.trans hb.out⟩, trivial⟩, by first | exact round_meas hlt | (rw [W3]; exact round_meas hlt)⟩
    · obtain rfl : j = l.length := by omega
      go_wp2
      go_ret
      exact ⟨by rw [HE.out, byteFrom_end]; rfl, HB0.out⟩
theorem many_next (r : Rm) (a : Int) (j : Nat) : r.many a (j + 1) = r.many a j ++ [r.byte (a + j)] := by
  unfold Rm.many
  rw [List.range_succ, List.map_append]
  rfl
theorem many_length (r : Rm) (a : Int) (n : Nat) : (r.many a n).length = n := by unfold Rm.many; rw [List.length_map, List.length_range]
set_option maxHeartbeats 4000000 in
set_option maxRecDepth 100000 in
theorem many_calls (h : RefL w g K r) (ho : r.Ok) (a : Int) (n : Nat) (h0 : 0 ≤ a) (h1 : a + n ≤ 18446744073709551616) (hn : n ≤ 65536) :
    Calls Try.prog 59 #[.pointer (some ⟨g, 0, none⟩), .int .u64 a, .int .i64 (n : Int)] w fun e w' => ∃ v, e = .returned v ∧ Kd.R (Kd.int .u8) 5 w' w.heap.size (fun _ => True) v (r.many a n) ∧ Below w.heap.size w w' := by
  have HB0 := Aside0.mk (Below.refl w.heap.size w)
  have BY := Aside0.mk (fun W (hb : Below w.heap.size w W) (x : Int) => Byte_calls (h.below hb) ho x)
  go_enter Try.func59, Try.ntmps59
  go_wp2
  go_loopw [7, 8] (fun v7 v8 wr => ∃ (j : Nat), v8 = .int .i64 j ∧ j ≤ n ∧ Aside0 (Kd.R (Kd.int .u8) 5 wr w.heap.size (fun _ => True) v7 (r.many a j)) ∧ Aside0 (Below w.heap.size w wr)) (fun _ v8 _ => n - (intOf v8).toNat)
  case atStart => exact ⟨0, rfl, by omega, ⟨Kd.R_nil _ _ _ _ _⟩, HB0⟩
  case round =>
    obtain ⟨j, rfl, hj, HO, HB⟩ := hrel
    by_cases hlt : j < n
    · have W1 : IntKind.u64.wrap (j : Int) = j := u64w (by omega) (by omega)
      have W2 : IntKind.u64.wrap (a + (j : Int)) = a + j := u64w (by omega) (by omega)
      have W3 := next64 hlt (by omega)
      have EN := Aside0.mk (many_next r a j)
      have LN := many_length r a j
      have I := BY.out _ HB.out (a + j)
      generalize r.byte (a + j) = b at I EN
      generalize r.many a j = l at HO EN LN
      have LM : l.length < 65536 := by omega
      replace I := Aside0.mk I
      go_wp2_with (first | (go_at_call 74; refine I.out.mono ?_; rintro e w1 ⟨rfl, hd⟩; have HO1 := Aside0.mk (Kd.R_below HO.out hd); have HB1 := Aside0.mk (below_step HB.out hd); clear hd) | ((with_reducible refine gate_builtin (b := .append) (xs := #[.tmp 14, .tmp 21]) rfl ?_); at_builtin; refine Kd.R_append (Kd.int .u8) (w0 := w) w.heap.size rfl (.tmp 14) (.tmp 21) 51 5 (.int .u8 0) 1 rfl Try.underlying51 info5 rfl (by decide) (by omega) u7 l b [.int .u8 b] (fun _ => True) (fun _ => False) rfl rfl rfl (fun _ hk => hk.elim) (fun _ _ => trivial) HO1.out HB1.out HB1.out.size ?aL ?_; (case aL => omega); intro v2 w2 ho2 hb2 hg2 hat2; have HO2 := Aside0.mk ho2; have HB2 := Aside0.mk hb2; clear ho2 hb2 hg2 hat2) | fail)
      exact ⟨⟨j + 1, by first | rfl | rw [W3], hlt, ⟨by rw [EN.out]; exact HO2.out⟩, HB2⟩, by first | exact round_meas hlt | (rw [W3]; exact round_meas hlt)⟩
    · obtain rfl : j = n := by omega
      go_wp2
      go_ret
      exact ⟨_, rfl, HO.out, HB.out⟩
end
set_option maxHeartbeats 4000000 in
set_option maxRecDepth 100000 in
theorem refNew_none (b : Int) (w : World) (h : b < 0 ∨ b > 256) : Calls Try.prog 12 #[.int .i64 b] w fun e w' => e = .returned (.tuple #[.pointer none, .int .i64 1]) ∧ w' = w := by
  by_cases c : b < 0
  · have c1 : decide (b < 0) = true := decide_eq_true c
    go_enter Try.func12, Try.ntmps12
    go_wp2
    go_ret2
    exact ⟨rfl, rfl⟩
  · have c1 : decide (b < 0) = false := decide_eq_false c
    have c2 : decide (256 < b) = true := decide_eq_true (by omega)
    go_enter Try.func12, Try.ntmps12
    go_wp2
    go_ret2
    exact ⟨rfl, rfl⟩
theorem RefL.new {w : World} {g : Nat} {b : Int} (h : w.heap[g]? = some (.cells #[.slice none 0 0, .slice none 0 0, .slice none 0 0, .int .i64 b] 37 (0, 0))) : RefL w g (fun _ => False) ⟨[], [], [], b⟩ :=
  ⟨⟨none, 0, none, 0, none, 0, h, Nat.le_refl _, Nat.le_refl _, Nat.le_refl _, Kd.F_nil _ _ _, Kd.F_nil _ _ _, Kd.F_nil _ _ _⟩, fun k hk => hk.elim, fun k hk => hk.elim⟩
set_option maxHeartbeats 4000000 in
set_option maxRecDepth 100000 in
theorem refNew_some (b : Int) (w : World) (h0 : 0 ≤ b) (h1 : b ≤ 256) : Calls Try.prog 12 #[.int .i64 b] w fun e w' => ∃ g, e = .returned (.tuple #[.pointer (some ⟨g, 0, none⟩), .int .i64 0]) ∧ RefL w' g (fun _ => False) ⟨[], [], [], b⟩ ∧ w.heap.size ≤ g ∧ Below w.heap.size w w' := by
  have c1 : decide (b < 0) = false := decide_eq_false (by omega)
  have c2 : decide (256 < b) = false := decide_eq_false (by omega)
  have hu := Try.underlying37
  go_enter Try.func12, Try.ntmps12
  go_wp2
  go_ret2
  exact ⟨_, rfl, RefL.new (blk_new w _), Nat.le_refl _, below_alloc (Below.refl _ _) _⟩
end Go.Proofs.Ytkppgepljjgjhaa.P
