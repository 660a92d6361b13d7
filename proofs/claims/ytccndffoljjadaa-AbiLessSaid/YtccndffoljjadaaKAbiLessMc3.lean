/- Words of the walks: lemmas about memory, cut down to what this proof uses. No condition. -/
import Derived.Test.YtccndffoljjadaaKAbiLessMc2
import Derived.LoopTactic
namespace Go.Proofs.Ytccndffoljjadaa.P
open Go.RowKit Go.Proofs.YtccndffoljjadaaW.PrintWords Go.Proofs.YtccndffoljjadaaW.PrintLast
set_option linter.unusedVariables false
set_option linter.unusedSimpArgs false
/-- Are these bytes mapped? -/
def mapd (m : Mm) (a n : Int) : Bool := decide (a + n < 18446744073709551616) && (List.range n.toNat).all fun i => (m.page ((a + i) / 256)).isSome
theorem mapd_no {m : Mm} {a n : Int} {j : Nat} (hj : j < n.toNat) (h : m.page ((a + j) / 256) = none) : mapd m a n = false := by
  unfold mapd
  rw [Bool.and_eq_false_iff]
  right
  rw [List.all_eq_false]
  exact ⟨j, by simpa using hj, by rw [h]; simp⟩
theorem mapd_yes {m : Mm} {a n : Int} (hc : a + n < 18446744073709551616) (h : ∀ j, j < n.toNat → (m.page ((a + (j : Int)) / 256)).isSome = true) : mapd m a n = true := by
  unfold mapd
  rw [Bool.and_eq_true, decide_eq_true hc, List.all_eq_true]
  exact ⟨rfl, fun j hj => h j (by simpa using hj)⟩
theorem ret_b {a b : Bool} (h : a = b) : Ending.returned (.bool a) = .returned (.bool b) := by rw [h]
set_option maxHeartbeats 4000000 in
set_option maxRecDepth 100000 in
theorem mapped.calls {w : World} {g gm : Nat} {L : List Lp} {clock : Nat} {m : Mm} (h : MemL w g gm L clock m) (a n : Int) (h0 : 0 ≤ a) (h1 : a ≤ 18446744073709551615) (n0 : 0 ≤ n) (n1 : n ≤ 9223372036854775807) :
    Calls Try.prog 47 #[.pointer (some ⟨g, 0, none⟩), .int .u64 a, .int .i64 n] w fun e w' => e = .returned (.bool (mapd m a n)) ∧ w' = w := by
  have wn : IntKind.u64.wrap n = n := by rw [IntKind.wrap_u64]; omega
  by_cases c : a + n < 18446744073709551616
  · have c1 : IntKind.u64.wrap (a + n) = a + n := by rw [IntKind.wrap_u64]; omega
    have c2 : decide (a + n < a) = false := decide_eq_false (by omega)
    go_enter Try.func47, Try.ntmps47
    go_wp2
    go_loopw [7] (fun v7 wr => ∃ (j : Nat), v7 = .int .u64 j ∧ j ≤ n.toNat ∧ Aside0 (∀ i, i < j → (m.page ((a + (i : Int)) / 256)).isSome = true) ∧ wr = w) (fun v7 _ => n.toNat - (intOf v7).toNat)
    case atStart => exact ⟨0, rfl, by omega, ⟨fun i hi => by omega⟩, rfl⟩
    case round =>
      obtain ⟨j, rfl, hj, HF, rfl⟩ := hrel
      by_cases hlt : j < n.toNat
      · have c3 : decide ((j : Int) < n) = true := decide_eq_true (by omega)
        have c4 : IntKind.u64.wrap (a + j) = a + j := by rw [IntKind.wrap_u64]; omega
        have c5 : IntKind.u64.wrap ((j : Int) + 1) = ((j + 1 : Nat) : Int) := by rw [IntKind.wrap_u64]; omega
        have ha0 : 0 ≤ a + (j : Int) := by omega
        have ha1 : a + (j : Int) ≤ 18446744073709551615 := by omega
        cases hl : lookL ((a + (j : Int)) / 256) L with
        | none =>
          have A := Aside0.mk (place_none h ha0 ha1 hl)
          have E := Aside0.mk (mapd_no hlt (by rw [h.page, hl]; rfl))
          go_wp2_with (first | (go_at_call 48; refine A.out.mono ?_; rintro e w' ⟨rfl, rfl⟩) | fail)
          go_ret
          exact ⟨ret_b E.out.symm, rfl⟩
        | some x =>
          have A := Aside0.mk (place_some h ha0 ha1 hl)
          have E := Aside0.mk (show ∀ i, i < j + 1 → (m.page ((a + (i : Int)) / 256)).isSome = true from fun i hi => by
            by_cases e : i = j
            · rw [e, h.page, hl]; rfl
            · exact HF.out i (by omega))
          clear HF
          go_wp2_with (first | (go_at_call 48; refine A.out.mono ?_; rintro e w' ⟨rfl, rfl⟩) | fail)
          exact ⟨⟨j + 1, by simp, by omega, E, trivial⟩, by simp [intOf]; omega⟩
      · have c3 : decide ((j : Int) < n) = false := decide_eq_false (by omega)
        have E := Aside0.mk (mapd_yes c (fun i hi => HF.out i (by omega)))
        go_wp2
        go_ret
        exact ⟨ret_b E.out.symm, rfl⟩
  · have E : mapd m a n = false := by unfold mapd; rw [decide_eq_false c]; rfl
    rw [E]
    have c1 : IntKind.u64.wrap (a + n) = a + n - 18446744073709551616 := by rw [IntKind.wrap_u64]; omega
    have c2 : decide (a + n - 18446744073709551616 < a) = true := decide_eq_true (by omega)
    go_enter Try.func47, Try.ntmps47
    go_wp2
    go_ret
    exact ⟨rfl, rfl⟩
end Go.Proofs.Ytccndffoljjadaa.P
