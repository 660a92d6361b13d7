/- Texts of one proof, one behind the other. No condition. -/
import Derived.Test.YtccndffoljjadaaKAbiTextsMc1
import Derived.Test.YtccndffoljjadaaKAbiTextsPx2
import Derived.Test.YtccndffoljjadaaKAbiTextsPx4
import Derived.LoopTactic
namespace Go.Proofs.Ytccndffoljjadaa.P
open Go.RowKit Go.Proofs.YtccndffoljjadaaW.PrintWords Go.Proofs.YtccndffoljjadaaW.PrintLast
set_option linter.unusedVariables false
set_option linter.unusedSimpArgs false
theorem add_off (g o j : Nat) : (⟨g, o, none⟩ : Addr).add j = ⟨g, o + j, none⟩ := by unfold Addr.add; split <;> simp_all
/-- A page's bytes are a row. -/
theorem MemL.row {w : World} {g gm : Nat} {L : List Lp} {clock : Nat} {m : Mm} (h : MemL w g gm L clock m) {x : Lp} (hx : x ∈ L) {o n : Nat} (hn : o + n ≤ 256) : Kd.C (Kd.int .u8) w (some ⟨x.blk, o, none⟩) n ((x.pg.bs.drop o).take n) := by
  have hlen := (h.ok x hx).b
  have hl : ((x.pg.bs.drop o).take n).length = n := by simp; omega
  refine ⟨hl, by omega, fun hpos => ⟨_, rfl, fun j p hj => ⟨[.int .u8 p], rfl, rfl, fun i u hu => ?_⟩⟩⟩
  obtain rfl : i = 0 := by cases i with | zero => rfl | succ i => simp at hu
  simp only [List.getElem?_cons_zero, Option.some.injEq] at hu
  subst hu
  rw [show j * (Kd.int .u8).sz + 0 = j from by show j * 1 + 0 = j; omega, add_off, blk_cell (h.blk x hx)]
  have hj' : x.pg.bs[o + j]? = some p := by
    rw [List.getElem?_take] at hj
    split at hj
    · rwa [List.getElem?_drop] at hj
    · cases hj
  have : o + j < x.pg.bs.length := (List.getElem?_eq_some_iff.1 hj').1
  unfold Pg.cells
  rw [List.getElem?_toArray, List.getElem?_append_left (by simpa using this), List.getElem?_map, hj']
  rfl
theorem run_slicePg (b : Nat) {lo hi : Int} (h0 : 0 ≤ lo) (h1 : lo ≤ hi) (h2 : hi ≤ 256) (h3 : lo < 256) (w : World) :
    (Instr.sliceAt 81 (.pointer (some ⟨b, 0, none⟩)) (some (.int .i64 lo)) (some (.int .i64 hi)) none).run Try.prog w = .ok (.slice (some ⟨b, lo.toNat, none⟩) (hi.toNat - lo.toNat) (256 - lo.toNat)) w := by
  have e : Try.prog.arrayLen 81 = 256 := by kernel_rfl
  have es : ∀ w, (sizeOf (Try.prog.elem 81)).run Try.prog w = .ok 1 w := fun w => by kernel_rfl
  rw [run_sliceAt_array_lh w 81 ⟨b, 0, none⟩ (by kernel_rfl) .i64 .i64 lo hi h0 h1 (by rw [e]; exact h2), es]
  simp only [Result.andThen, slicedAt, e]
  rw [if_neg (by omega), add_off, Nat.mul_one, Nat.zero_add]
/-- The bytes from a place on. -/
def Pg.sub (p : Pg) (a n : Int) : List Int := (p.bs.drop a.toNat).take n.toNat
def tagmem_Mem_Load.f (k : Nat) (m : Mm) (a n : Int) : Option (Int × Int) := if size_ok n then (if a % n = 0 then (match m.page (a / 256) with | some p => (word_Of.f k (p.sub (a % 256) n)).bind fun r => some (r, 0) | none => some (0, 30)) else some (0, 31)) else some (0, 1)
end Go.Proofs.Ytccndffoljjadaa.P

namespace Go.Proofs.Ytccndffoljjadaa.P
open Go.RowKit Go.Proofs.YtccndffoljjadaaW.PrintWords Go.Proofs.YtccndffoljjadaaW.PrintLast
set_option linter.unusedVariables false
set_option linter.unusedSimpArgs false
/-- Are these bytes mapped? -/
def mapd (m : Mm) (a n : Int) : Bool := decide (a + n < 18446744073709551616) && (List.range n.toNat).all fun i => (m.page ((a + i) / 256)).isSome
theorem mapd_no {m : Mm} {a n : Int} {j : Nat} (hj : j < n.toNat) (h : m.page ((a + j) / 256) = none) : mapd m a n = false := by
  unfold mapd
  rw [Bool.and_eq_false_iff]
  right
  rw [List.all_eq_false]
  exact ⟨j, by simpa using hj, by rw [h]; simp⟩
theorem mapd_yes {m : Mm} {a n : Int} (hc : a + n < 18446744073709551616) (h : ∀ j, j < n.toNat → (m.page ((a + (j : Int)) / 256)).isSome = true) : mapd m a n = true := by
  unfold mapd
  rw [Bool.and_eq_true, decide_eq_true hc, List.all_eq_true]
  exact ⟨rfl, fun j hj => h j (by simpa using hj)⟩
theorem ret_b {a b : Bool} (h : a = b) : Ending.returned (.bool a) = .returned (.bool b) := by rw [h]
set_option maxHeartbeats 4000000 in
set_option maxRecDepth 100000 in
theorem mapped.calls {w : World} {g gm : Nat} {L : List Lp} {clock : Nat} {m : Mm} (h : MemL w g gm L clock m) (a n : Int) (h0 : 0 ≤ a) (h1 : a ≤ 18446744073709551615) (n0 : 0 ≤ n) (n1 : n ≤ 9223372036854775807) :
    Calls Try.prog 47 #[.pointer (some ⟨g, 0, none⟩), .int .u64 a, .int .i64 n] w fun e w' => e = .returned (.bool (mapd m a n)) ∧ w' = w := by
  have wn : IntKind.u64.wrap n = n := by rw [IntKind.wrap_u64]; omega
  by_cases c : a + n < 18446744073709551616
  · have c1 : IntKind.u64.wrap (a + n) = a + n := by rw [IntKind.wrap_u64]; omega
    have c2 : decide (a + n < a) = false := decide_eq_false (by omega)
    go_enter Try.func47, Try.ntmps47
    go_wp2
    go_loopw [7] (fun v7 wr => ∃ (j : Nat), v7 = .int .u64 j ∧ j ≤ n.toNat ∧ Aside0 (∀ i, i < j → (m.page ((a + (i : Int)) / 256)).isSome = true) ∧ wr = w) (fun v7 _ => n.toNat - (intOf v7).toNat)
    case atStart => exact ⟨0, rfl, by omega, ⟨fun i hi => by omega⟩, rfl⟩
    case round =>
      obtain ⟨j, rfl, hj, HF, rfl⟩ := hrel
      by_cases hlt : j < n.toNat
      · have c3 : decide ((j : Int) < n) = true := decide_eq_true (by omega)
        have c4 : IntKind.u64.wrap (a + j) = a + j := by rw [IntKind.wrap_u64]; omega
        have c5 : IntKind.u64.wrap ((j : Int) + 1) = ((j + 1 : Nat) : Int) := by rw [IntKind.wrap_u64]; omega
        have ha0 : 0 ≤ a + (j : Int) := by omega
        have ha1 : a + (j : Int) ≤ 18446744073709551615 := by omega
        cases hl : lookL ((a + (j : Int)) / 256) L with
        | none =>
          have A := Aside0.mk (place_none h ha0 ha1 hl)
          have E := Aside0.mk (mapd_no hlt (by rw [h.page, hl]; rfl))
          go_wp2_with (first | (go_at_call 48; refine A.out.mono ?_; rintro e w' ⟨rfl, rfl⟩) | fail)
          go_ret
          exact ⟨ret_b E.out.symm, rfl⟩
        | some x =>
          have A := Aside0.mk (place_some h ha0 ha1 hl)
          have E := Aside0.mk (show ∀ i, i < j + 1 → (m.page ((a + (i : Int)) / 256)).isSome = true from fun i hi => by
            by_cases e : i = j
            · rw [e, h.page, hl]; rfl
            · exact HF.out i (by omega))
          clear HF
          go_wp2_with (first | (go_at_call 48; refine A.out.mono ?_; rintro e w' ⟨rfl, rfl⟩) | fail)
          exact ⟨⟨j + 1, by simp, by omega, E, trivial⟩, by simp [intOf]; omega⟩
      · have c3 : decide ((j : Int) < n) = false := decide_eq_false (by omega)
        have E := Aside0.mk (mapd_yes c (fun i hi => HF.out i (by omega)))
        go_wp2
        go_ret
        exact ⟨ret_b E.out.symm, rfl⟩
  · have E : mapd m a n = false := by unfold mapd; rw [decide_eq_false c]; rfl
    rw [E]
    have c1 : IntKind.u64.wrap (a + n) = a + n - 18446744073709551616 := by rw [IntKind.wrap_u64]; omega
    have c2 : decide (a + n - 18446744073709551616 < a) = true := decide_eq_true (by omega)
    go_enter Try.func47, Try.ntmps47
    go_wp2
    go_ret
    exact ⟨rfl, rfl⟩
end Go.Proofs.Ytccndffoljjadaa.P
